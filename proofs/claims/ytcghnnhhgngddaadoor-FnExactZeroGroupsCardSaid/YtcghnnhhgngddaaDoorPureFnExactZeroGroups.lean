/- For all nets the program's ZeroGroups returns what the reference's returns; no condition. -/
import Derived.Test.YtcghnnhhgngddaaDoorMZeroGroupsx0
import Derived.Test.YtcghnnhhgngddaaDoorMZeroGroupsx3
import Derived.Test.YtcghnnhhgngddaaDoorMZeroGroupsx5
import Derived.Test.YtcghnnhhgngddaaDoorEv
import Derived.Test.YtcghnnhhgngddaaDoorPuZeroZeroGroups
import Derived.Test.YtcghnnhhgngddaaDoorPuToIZeroGroups
import Derived.Test.YtcghnnhhgngddaaDoorPuIntsZeroGroups
import Derived.Test.YtcghnnhhgngddaaDoorPuSubZeroGroups
import Derived.Test.YtcghnnhhgngddaaDoorPuOpnZeroGroups
import Derived.Test.YtcghnnhhgngddaaDoorPuSettleZeroGroups
import Derived.Test.YtcghnnhhgngddaaDoorPuTabsZeroGroups
import Derived.Test.YtcghnnhhgngddaaDoorPuPartZeroGroups
import Derived.Test.YtcghnnhhgngddaaDoorPuGroupsZeroGroups
namespace Go.Proofs.YtcghnnhhgngddaaDoor.Pure
open Go.RowKit Go.Proofs.YtcghnnhhgngddaaDoor.MZeroGroups Go.Proofs.YtcghnnhhgngddaaDoorW.PrintWords Go.Proofs.YtcghnnhhgngddaaDoorW.PrintLast Go.Proofs.YtcghnnhhgngddaaDoor.Evs Go.Proofs.YtcghnnhhgngddaaDoor.PuZeroZeroGroups Go.Proofs.YtcghnnhhgngddaaDoor.PuToIZeroGroups Go.Proofs.YtcghnnhhgngddaaDoor.PuIntsZeroGroups Go.Proofs.YtcghnnhhgngddaaDoor.PuSubZeroGroups Go.Proofs.YtcghnnhhgngddaaDoor.PuOpnZeroGroups Go.Proofs.YtcghnnhhgngddaaDoor.PuTabsZeroGroups Go.Proofs.YtcghnnhhgngddaaDoor.PuPartZeroGroups Go.Proofs.YtcghnnhhgngddaaDoor.PuGroupsZeroGroups
open Go.Proofs.YtcghnnhhgngddaaDoor.PuSettleZeroGroups (g good good_of g_lt)
set_option linter.unusedVariables false
set_option linter.unusedSimpArgs false

theorem map_range_sum (x : List Int) : ((List.range x.length).map (g x)).sum = x.sum := by
  have : (List.range x.length).map (g x) = x := by
    apply List.ext_getElem
    · simp
    · intro i h1 h2
      simp [g, List.getD_eq_getElem?_getD, h2]
  rw [this]
theorem filter_sum (f : Nat → Int) : ∀ l : List Nat, ((l.filter fun i => decide (f i ≠ 0)).map f).sum = (l.map f).sum
  | [] => rfl
  | i :: l => by
    rw [List.filter_cons, List.map_cons, List.sum_cons]
    by_cases h : f i = 0
    · rw [if_neg (by rw [h]; decide), filter_sum f l, h]; omega
    · rw [if_pos (decide_eq_true h), List.map_cons, List.sum_cons, filter_sum f l]
theorem vals_sum (x : List Int) : (vals x).sum = x.sum := by
  rw [← map_range_sum x]
  exact filter_sum (g x) _
theorem all_zero {x : List Int} (h : good x) : sm (vals x) (2 ^ (opn x).length - 1) = 0 := by
  have e := sm_all (vals x)
  rw [vals_len, vals_sum, h.2.2.2] at e
  exact e
noncomputable def zeroR (x : List Int) : Int × Int := if nets0 x = true then (if (opn x).length ≤ 10 then (G (vals x) (2 ^ (opn x).length - 1), 0) else (0, 3)) else (0, 1)
theorem last_rd (F : (Nat → Int) → Nat → Int) (N : Nat) (h : 0 < N) (hN : N ≤ 1024) : (0 ≤ wrap64 (((tab F N).length : Int) - 1)) ∧ wrap64 (((tab F N).length : Int) - 1) < ((tab F N).length : Int) ∧ rd (tab F N) (wrap64 (((tab F N).length : Int) - 1)) = val F (N - 1) := by
  rw [tab_len, wrap_id (by omega) (by omega), show (N : Int) - 1 = ((N - 1 : Nat) : Int) by omega]
  exact ⟨by omega, by omega, tab_get F N (N - 1) (by omega)⟩
theorem zeroS_ev (x : List Int) (hl : x.length ≤ maxLen) : Ev (fun k => spec_ZeroGroups.f k x) (zeroR x) := by
  unfold spec_ZeroGroups.f zeroR
  refine Ev.bind (ZeroS_ev x hl) ?_
  by_cases h0 : nets0 x = true
  · rw [if_pos h0]
    have hg := good_of h0
    have h16 := hg.2.1
    refine ev_pos h0 (Ev.bind (openS_ev x h16) ?_)
    rw [ints_len]
    by_cases h10 : (opn x).length ≤ 10
    · rw [if_pos h10]
      have hN : 2 ^ (opn x).length ≤ 1024 := Nat.le_trans (Nat.pow_le_pow_right (by omega) h10) (by decide)
      have hp := Nat.two_pow_pos (opn x).length
      obtain ⟨l1, l2, l3⟩ := last_rd (FG (vals x)) _ hp hN
      refine ev_neg (by omega) (Ev.bind (groups_ev x hg h10) (ev_pos l1 (ev_pos l2 ?_)))
      rw [l3]
      exact Ev.now _
    · rw [if_neg h10]
      exact ev_pos (by omega) (Ev.now _)
  · rw [if_neg h0]
    exact ev_neg h0 (Ev.now _)
theorem zeroI_ev (x : List Int) (hl : x.length ≤ maxLen) : Ev (fun k => impl_ZeroGroups.f k x) (zeroR x) := by
  unfold impl_ZeroGroups.f zeroR
  refine Ev.bind (part_ev x hl) ?_
  unfold partR
  by_cases h0 : nets0 x = true
  · rw [if_pos h0, if_pos h0]
    have hg := good_of h0
    by_cases h10 : (opn x).length ≤ 10
    · rw [if_pos h10, if_pos h10]
      have hN : 2 ^ (opn x).length ≤ 1024 := Nat.le_trans (Nat.pow_le_pow_right (by omega) h10) (by decide)
      have hp := Nat.two_pow_pos (opn x).length
      obtain ⟨l1, l2, l3⟩ := last_rd (FB (vals x)) _ hp hN
      refine ev_pos rfl (ev_pos l1 (ev_pos l2 ?_))
      dsimp only
      rw [l3, show val (FB (vals x)) (2 ^ (opn x).length - 1) = B (vals x) (2 ^ (opn x).length - 1) from rfl, B_G (vals x) (2 ^ (opn x).length) _ (by omega) (all_zero hg)]
      exact Ev.now _
    · rw [if_neg h10, if_neg h10]
      exact ev_neg (by decide) (Ev.now _)
  · rw [if_neg h0, if_neg h0]
    exact ev_neg (by decide) (Ev.now _)
theorem FnExactZeroGroups (x : List Int) (hx : x.length ≤ maxLen) (_ : ∀ z ∈ x, (Lit.int .i64 z).wf = true) : ∃ k, laws_FnExactZeroGroups.f k x = some true := by
  refine Ev.rounds (r := true) ?_
  unfold laws_FnExactZeroGroups.f
  by_cases h0 : (x.length : Int) > 1048576
  · exact ev_pos h0 (Ev.now _)
  refine ev_neg h0 ?_
  have tx := toI_ev x (by omega)
  have hI : Ev (fun k => laws_eqInt64S.f k x x) true := eqI_any x hx
  refine Ev.bind tx (Ev.bind (zeroS_ev x hx) (Ev.bind tx (Ev.bind (zeroI_ev x hx) (ev_pos rfl ?_))))
  rw [bne_self_eq_false]
  refine Ev.step (fun k => by simp only [laws_FnExactZeroGroups.j0]; rfl) ?_
  exact ev_neg (by decide) (Ev.bind tx (Ev.bind hI (ev_pos rfl (Ev.now _))))
end Go.Proofs.YtcghnnhhgngddaaDoor.Pure
