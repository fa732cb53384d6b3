/- The people whose nets are not 0, in their order. -/
import Derived.Test.YtcghnnhhgngddaaDoorMZeroGroupsx0
import Derived.Test.YtcghnnhhgngddaaDoorEv
import Derived.Test.YtcghnnhhgngddaaDoorPuSubZeroGroups
import Derived.Test.YtcghnnhhgngddaaDoorPuSettleZeroGroups
namespace Go.Proofs.YtcghnnhhgngddaaDoor.PuOpnZeroGroups
open Go.RowKit Go.Proofs.YtcghnnhhgngddaaDoor.MZeroGroups Go.Proofs.YtcghnnhhgngddaaDoorW.PrintWords Go.Proofs.YtcghnnhhgngddaaDoorW.PrintLast Go.Proofs.YtcghnnhhgngddaaDoor.Evs Go.Proofs.YtcghnnhhgngddaaDoor.PuSubZeroGroups
open Go.Proofs.YtcghnnhhgngddaaDoor.PuSettleZeroGroups (g)
set_option linter.unusedVariables false
set_option linter.unusedSimpArgs false
theorem range_pw (n : Nat) : (List.range n).Pairwise (· < ·) := List.pairwise_lt_range
theorem mem_pw (n s : Nat) : (mem n s).Pairwise (· < ·) := (range_pw n).filter _
theorem mem_mem (n s k : Nat) : k ∈ mem n s ↔ k < n ∧ s.testBit k = true := by simp [mem]
/-- the people with nets -/
def opn (x : List Int) : List Nat := (List.range x.length).filter fun i => decide (g x i ≠ 0)
def vals (x : List Int) : List Int := (opn x).map (g x)
theorem opn_pw (x : List Int) : (opn x).Pairwise (· < ·) := (range_pw _).filter _
theorem opn_mem (x : List Int) (k : Nat) : k ∈ opn x ↔ k < x.length ∧ g x k ≠ 0 := by simp [opn]
theorem opn_nodup (x : List Int) : (opn x).Nodup := (opn_pw x).imp (fun h => by omega)
def at_ (x : List Int) (k : Nat) : Nat := (opn x).getD k 0
theorem at_get (x : List Int) (k : Nat) (h : k < (opn x).length) : at_ x k = (opn x)[k] := by simp [at_, List.getD_eq_getElem?_getD, h]
theorem at_mem (x : List Int) (k : Nat) (h : k < (opn x).length) : at_ x k ∈ opn x := by rw [at_get x k h]; exact List.getElem_mem h
theorem at_lt (x : List Int) (i j : Nat) (hj : j < (opn x).length) (h : i < j) : at_ x i < at_ x j := by
  rw [at_get x i (by omega), at_get x j hj]
  exact List.pairwise_iff_getElem.1 (opn_pw x) i j (by omega) hj h
/-- the people of a set -/
def ppl (x : List Int) (s : Nat) : List Nat := (mem (opn x).length s).map (at_ x)
theorem ppl_pw (x : List Int) (s : Nat) : (ppl x s).Pairwise (· < ·) := by
  unfold ppl
  rw [List.pairwise_map]
  refine (mem_pw _ s).imp_of_mem ?_
  intro a b ha hb hab
  exact at_lt x a b ((mem_mem _ _ _).1 hb).1 hab
theorem ppl_opn (x : List Int) (s : Nat) {j : Nat} (h : j ∈ ppl x s) : j < x.length ∧ g x j ≠ 0 := by
  obtain ⟨k, hk, rfl⟩ := List.mem_map.1 h
  exact (opn_mem x _).1 (at_mem x k ((mem_mem _ _ _).1 hk).1)
theorem ppl_at (x : List Int) (s k : Nat) (hk : k < (opn x).length) : at_ x k ∈ ppl x s ↔ s.testBit k = true := by
  constructor
  · intro h
    obtain ⟨j, hj, e⟩ := List.mem_map.1 h
    have hj := (mem_mem _ _ _).1 hj
    have : j = k := by
      rcases Nat.lt_trichotomy j k with h | h | h
      · have := at_lt x j k hk h; omega
      · exact h
      · have := at_lt x k j hj.1 h; omega
    rw [← this]; exact hj.2
  · intro h
    exact List.mem_map.2 ⟨k, (mem_mem _ _ _).2 ⟨hk, h⟩, rfl⟩
theorem opn_at (x : List Int) {j : Nat} (h : j ∈ opn x) : ∃ k, k < (opn x).length ∧ at_ x k = j := by
  obtain ⟨k, hk, e⟩ := List.mem_iff_getElem.1 h
  exact ⟨k, hk, by rw [at_get x k hk]; exact e⟩
end Go.Proofs.YtcghnnhhgngddaaDoor.PuOpnZeroGroups
