/- Who can pay has paid all that he owes, and nobody pays twice. -/
import Derived.Test.YtofcgkcpkngocaaMPaidx0
import Derived.Test.YtofcgkcpkngocaaMPaidx11
import Derived.Test.YtofcgkcpkngocaaMPaidx13
import Derived.Test.YtofcgkcpkngocaaVPaidEv
import Derived.Test.YtofcgkcpkngocaaVPaidArr
import Derived.Test.YtofcgkcpkngocaaPuDebtPaid
import Derived.Test.YtofcgkcpkngocaaPuTablePaid
import Derived.Test.YtofcgkcpkngocaaPuTableLPaid
import Derived.Test.YtofcgkcpkngocaaPuCanPaid
namespace Go.Proofs.Ytofcgkcpkngocaa.PuCan2Paid
open Go.RowKit Go.Proofs.Ytofcgkcpkngocaa.MPaid Go.Proofs.YtofcgkcpkngocaaW.PrintWords Go.Proofs.YtofcgkcpkngocaaW.PrintLast Go.Proofs.YtofcgkcpkngocaaW.PrintMore Go.Proofs.Ytofcgkcpkngocaa.Evs Go.Proofs.Ytofcgkcpkngocaa.PuDebtPaid Go.Proofs.Ytofcgkcpkngocaa.PuTablePaid Go.Proofs.Ytofcgkcpkngocaa.PuTableLPaid Go.Proofs.Ytofcgkcpkngocaa.PuCanPaid
set_option linter.unusedVariables false
set_option linter.unusedSimpArgs false
theorem gd_set (x : List Int) (i k : Nat) (y : Int) (h : i < x.length) : (x.set i y).getD k 0 = if k = i then y else x.getD k 0 := by
  rw [List.getD_eq_getElem?_getD, List.getD_eq_getElem?_getD, List.getElem?_set]
  by_cases e : k = i
  · rw [if_pos e.symm, if_pos h, if_pos e]; rfl
  · rw [if_neg (fun z => e z.symm), if_neg e]
theorem gb_set (x : List Bool) (i k : Nat) (y : Bool) (h : i < x.length) : (x.set i y).getD k false = if k = i then y else x.getD k false := by
  rw [List.getD_eq_getElem?_getD, List.getD_eq_getElem?_getD, List.getElem?_set]
  by_cases e : k = i
  · rw [if_pos e.symm, if_pos h, if_pos e]; rfl
  · rw [if_neg (fun z => e z.symm), if_neg e]
theorem addF_ok {t : Tb} (hb : bdT t 480) (q : Nat) (hq : q < 16) (M : Int) (hM : M + 480 ≤ 100000000) : ∀ (n k : Nat) (h : List Int), k + n = h.length → h.length ≤ 16 → (∀ i, i < h.length → 0 ≤ h.getD i 0 ∧ h.getD i 0 ≤ (if i < k then M + 480 else M)) →
    ∃ r, addF t q n k h = some r ∧ r.length = h.length ∧ ∀ i, i < h.length → r.getD i 0 = h.getD i 0 + (if k ≤ i then tg t q i else 0)
  | 0, k, h, hk, _, _ => ⟨h, rfl, rfl, fun i hi => by rw [if_neg (by omega)]; omega⟩
  | n + 1, k, h, hk, h16, hh => by
    have h1 := hh k (by omega)
    rw [if_neg (Nat.lt_irrefl k)] at h1
    have h2 := hb q k hq (by omega)
    have hw : wrap64 (h.getD k 0 + tg t q k) = h.getD k 0 + tg t q k := wrap_id (by omega) (by omega)
    obtain ⟨r, e, hl, hr⟩ := addF_ok hb q hq M hM n (k + 1) (h.set k (h.getD k 0 + tg t q k)) (by rw [List.length_set]; omega) (by rw [List.length_set]; exact h16) (fun i hi => by
      rw [List.length_set] at hi
      rw [gd_set h k i _ (by omega)]
      have h3 := hh i hi
      by_cases e : i = k
      · rw [if_pos e, if_pos (by omega)]; omega
      · rw [if_neg e]
        by_cases e2 : i < k
        · rw [if_pos (by omega)]; rw [if_pos e2] at h3; exact h3
        · rw [if_neg (by omega)]; rw [if_neg e2] at h3; exact h3)
    refine ⟨r, ?_, by rw [hl, List.length_set], fun i hi => ?_⟩
    · unfold addF
      rw [hw, if_neg (by omega)]; exact e
    · rw [hr i (by rw [List.length_set]; exact hi), gd_set h k i _ (by omega)]
      by_cases e : i = k
      · rw [if_pos e, if_neg (by omega), if_pos (by omega), e]; omega
      · rw [if_neg e]
        by_cases e2 : k ≤ i
        · rw [if_pos (by omega), if_pos e2]
        · rw [if_neg (by omega), if_neg e2]
def Jp (p : Nat) (t : Tb) (c : List Int) (q : Nat) (h : List Int) (pd : List Bool) (out : List Int) (ag : Bool) : Prop :=
  (∀ i, i < p → (pd.getD i false = true ↔ (i : Int) ∈ out)) ∧ (∀ x ∈ out, 0 ≤ x ∧ x < (p : Int)) ∧ out.Nodup ∧ (∀ i, i < p → pd.getD i false = false → c.getD i 0 ≤ h.getD i 0) ∧
  (∀ i, i < p → 0 ≤ h.getD i 0 ∧ h.getD i 0 ≤ 100 + 480 * (out.length : Int)) ∧ (ag = false → ∀ i, i < q → pd.getD i false = true ∨ h.getD i 0 < osum t i p) ∧ out.length + pd.count false ≤ 16
def Gp (p : Nat) (t : Tb) (c : List Int) (r : List Int × Int) : Prop := r.2 = 0 ∧ (∀ x ∈ r.1, 0 ≤ x ∧ x < (p : Int)) ∧ r.1.Nodup ∧ ∀ i, i < p → osum t i p ≤ c.getD i 0 → (i : Int) ∈ r.1
theorem osum_nn {t : Tb} (hb : bdT t 480) (q : Nat) (hq : q < 16) (n : Nat) (hn : n ≤ 16) : 0 ≤ osum t q n := (osum_bd hb q hq n hn).1
theorem pay_step {p : Nat} {t : Tb} (hp2 : p ≤ 16) (hb : bdT t 480) {c : List Int} {q : Nat} {h : List Int} {pd : List Bool} {out : List Int} {ag : Bool} (hq : q < p) (hl : h.length = p) (hd : pd.length = p) (hJ : Jp p t c q h pd out ag)
    (hf : pd.getD q false = false) (hs : ¬ h.getD q 0 < osum t q p) : ∃ r, addF t q p 0 (h.set q (wrap64 (h.getD q 0 - osum t q p))) = some r ∧ Jp p t c (q + 1) r (pd.set q true) (out ++ [(q : Int)]) true := by
  obtain ⟨j1, j2, j3, j4, j5, j6, j7⟩ := hJ
  have ho := osum_nn hb q (by omega) p hp2
  have hq5 := j5 q hq
  have hc := countF_set pd q (by omega) hf
  have hw : wrap64 (h.getD q 0 - osum t q p) = h.getD q 0 - osum t q p := wrap_id (by omega) (by omega)
  obtain ⟨r, e, hrl, hr⟩ := addF_ok hb q (by omega) (100 + 480 * (out.length : Int)) (by omega) p 0 (h.set q (h.getD q 0 - osum t q p)) (by rw [List.length_set]; omega) (by rw [List.length_set]; omega) (fun i hi => by
    rw [List.length_set] at hi
    rw [if_neg (Nat.not_lt_zero i), gd_set h q i _ (by omega)]
    have := j5 i (by omega)
    split <;> omega)
  have hq2 : ¬ (q : Int) ∈ out := fun z => by
    have := (j1 q hq).2 z
    rw [hf] at this; cases this
  have hri : ∀ i, i < p → r.getD i 0 = (if i = q then h.getD q 0 - osum t q p else h.getD i 0) + tg t q i := by
    intro i hi
    rw [hr i (by rw [List.length_set]; omega), gd_set h q i _ (by omega), if_pos (Nat.zero_le i)]
  refine ⟨r, by rw [hw]; exact e, fun i hi => ?_, fun x hx => ?_, ?_, fun i hi hu => ?_, fun i hi => ?_, by simp, ?_⟩
  · rw [gb_set pd q i _ (by omega)]
    by_cases e1 : i = q
    · rw [if_pos e1, e1]; simp
    · rw [if_neg e1, j1 i hi, List.mem_append, List.mem_singleton]
      exact ⟨.inl, fun z => z.elim id (fun y => absurd (by omega) e1)⟩
  · rcases List.mem_append.1 hx with hx | hx
    · exact j2 x hx
    · have := List.mem_singleton.1 hx; omega
  · rw [List.nodup_append]
    refine ⟨j3, by simp, fun a ha b hb2 => ?_⟩
    have := List.mem_singleton.1 hb2
    intro e2
    exact hq2 (by rw [← this, ← e2]; exact ha)
  · rw [gb_set pd q i _ (by omega)] at hu
    by_cases e1 : i = q
    · rw [if_pos e1] at hu; cases hu
    · rw [if_neg e1] at hu
      rw [hri i hi, if_neg e1]
      have := j4 i hi hu
      have := hb q i (by omega) (by omega)
      omega
  · rw [hri i hi, List.length_append, List.length_singleton]
    have := j5 i hi
    have := hb q i (by omega) (by omega)
    split <;> omega
  · rw [List.length_append, List.length_singleton]; omega
theorem can_good {p : Int} {l : List D} {c : List Int} (hv : valid p l = true) (hlen : (c.length : Int) = p) (hc : ∀ x ∈ c, 0 ≤ x ∧ x < 100) (hb : bdT (sumT l) 480) :
    ∃ r : List Int × Int, (r.1.length ≤ 16 ∧ Gp p.toNat (sumT l) c r) ∧ Ev (fun k => spec_CanPayFrom.f k p l c) r ∧ Ev (fun k => impl_CanPayFrom.f k p l c) r := by
  obtain ⟨hp, hp2, h60, hd⟩ := valid_bd hv
  obtain ⟨hb6, hz⟩ := sumT_bd hv
  have hc16 : ∀ i, i < p.toNat → 0 ≤ c.getD i 0 ∧ c.getD i 0 < 100 := fun i hi => by
    rw [getD_lt c 0 i (by omega)]; exact hc _ (List.getElem_mem _)
  refine can_core (Gp p.toNat (sumT l) c) p l c (by unfold maxLen; omega) (by unfold maxLen; omega) hv hlen ?_ ?_
  · rw [List.all_eq_true]
    intro x hx
    have := hc x hx
    exact decide_eq_true (by omega)
  · refine all_both (Gp p.toNat (sumT l) c) (Jp p.toNat (sumT l) c) p.toNat (sumT l) (by omega) (by omega) hb6 hz ?_ ?_ ?_ ?_ ?_ 17 c (List.replicate p.toNat false) [] (by omega) (by simp) (by simp; omega) (by simp; omega) ?_
    · intro q h pd out ag hq hl hdl hJ hy
      obtain ⟨j1, j2, j3, j4, j5, j6, j7⟩ := hJ
      refine ⟨j1, j2, j3, j4, j5, fun ha i hi => ?_, j7⟩
      by_cases e : i = q
      · rw [e]; exact hy
      · exact j6 ha i (by omega)
    · intro q h pd out ag hq hl hdl hJ hf hs r hr
      obtain ⟨r2, e, hJ2⟩ := pay_step (by omega) hb hq hl hdl hJ hf hs
      rw [hr] at e
      cases e
      exact hJ2
    · intro q h pd out ag hq hl hdl hJ hf hs hr
      obtain ⟨r2, e, hJ2⟩ := pay_step (by omega) hb hq hl hdl hJ hf hs
      rw [hr] at e; cases e
    · intro h pd out hl hdl hJ
      obtain ⟨j1, j2, j3, j4, j5, j6, j7⟩ := hJ
      refine ⟨rfl, j2, j3, fun i hi ho => ?_⟩
      refine (j1 i hi).1 ?_
      rcases j6 rfl i hi with h1 | h1
      · exact h1
      · cases hpd : pd.getD i false with
        | true => rfl
        | false =>
          have := j4 i hi hpd
          omega
    · intro h pd out hJ
      obtain ⟨j1, j2, j3, j4, j5, j6, j7⟩ := hJ
      exact ⟨j1, j2, j3, j4, j5, fun _ i hi => absurd hi (by omega), j7⟩
    · refine ⟨fun i hi => ?_, by simp, by simp, fun i hi _ => Int.le_refl _, fun i hi => ?_, fun _ i hi => absurd hi (by omega), by simp; omega⟩
      · rw [List.getD_eq_getElem?_getD, List.getElem?_replicate, if_pos hi]; simp
      · have := hc16 i hi
        simp only [List.length_nil]; omega
end Go.Proofs.Ytofcgkcpkngocaa.PuCan2Paid
