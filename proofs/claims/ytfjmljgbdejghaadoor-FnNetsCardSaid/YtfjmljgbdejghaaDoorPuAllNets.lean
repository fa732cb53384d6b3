import Derived.Test.YtfjmljgbdejghaaDoorMNetsx0
import Derived.Test.YtfjmljgbdejghaaDoorMNetsx2
import Derived.Test.YtfjmljgbdejghaaDoorMNetsx6
import Derived.Test.YtfjmljgbdejghaaDoorMNetsx7
import Derived.Test.YtfjmljgbdejghaaDoorVNetsEv
import Derived.Test.YtfjmljgbdejghaaDoorMNetsx13
import Derived.Test.YtfjmljgbdejghaaDoorMNetsx12
import Derived.Test.YtfjmljgbdejghaaDoorMNetsx10
import Derived.Test.YtfjmljgbdejghaaDoorMNetsx14
import Derived.Test.YtfjmljgbdejghaaDoorMNetsx8
import Derived.Test.YtfjmljgbdejghaaDoorVNetsArr
import Derived.Test.YtfjmljgbdejghaaDoorMNetsx9
import Derived.Test.YtfjmljgbdejghaaDoorMNetsx11
import Derived.Test.YtfjmljgbdejghaaDoorMNetsx5
import Derived.Laws.BitsAllLaws
import Derived.Lib.ItoaNum
import Derived.Lib.Join
import Derived.Test.YtfjmljgbdejghaaDoorMNetsx3
import Derived.Lib.Split
import Derived.Lib.IndexBytes
import Derived.Lib.IndexLaws
import Derived.Lib.CountLaws
import Derived.Test.YtfjmljgbdejghaaDoorMNetsx4
-- a text of this session, cut down for this claim
namespace Go.Proofs.YtfjmljgbdejghaaDoor.PuDebtNets
open Go.RowKit Go.Proofs.YtfjmljgbdejghaaDoor.MNets Go.Proofs.YtfjmljgbdejghaaDoorW.PrintWords Go.Proofs.YtfjmljgbdejghaaDoorW.PrintLast Go.Proofs.YtfjmljgbdejghaaDoor.Evs
set_option linter.unusedVariables false
set_option linter.unusedSimpArgs false
abbrev D := S77
noncomputable def dec (p : Prop) : Bool := @decide p (Classical.propDecidable p)
theorem dec_true {p : Prop} (h : p) : dec p = true := by unfold dec; exact @decide_eq_true p (Classical.propDecidable p) h
theorem dec_false {p : Prop} (h : ¬ p) : dec p = false := by unfold dec; exact @decide_eq_false p (Classical.propDecidable p) h
theorem D.ext {a b : D} (h0 : a.f0 = b.f0) (h1 : a.f1 = b.f1) (h2 : a.f2 = b.f2) : a = b := by
  cases a; cases b; simp_all
theorem rdD (l : List D) (i : Nat) (h : i < l.length) : rd_T77 l (i : Int) = l[i] := getD_lt l _ i h
def okD (p : Int) (d : D) : Bool := decide (0 ≤ d.f0 ∧ d.f0 < p ∧ 0 ≤ d.f1 ∧ d.f1 < p ∧ d.f0 ≠ d.f1 ∧ 1 ≤ d.f2 ∧ d.f2 ≤ 100000000)
def valid (p : Int) (l : List D) : Bool := decide (1 ≤ p ∧ p ≤ 16 ∧ l.length ≤ 60) && l.all (okD p)
theorem all_drop {α : Type} (f : α → Bool) (l : List α) (i : Nat) (h : i < l.length) : (l.drop i).all f = (f l[i] && (l.drop (i + 1)).all f) := by
  rw [List.drop_eq_getElem_cons h]; rfl
theorem okD_true {p : Int} {d : D} (h : 0 ≤ d.f0 ∧ d.f0 < p ∧ 0 ≤ d.f1 ∧ d.f1 < p ∧ d.f0 ≠ d.f1 ∧ 1 ≤ d.f2 ∧ d.f2 ≤ 100000000) : okD p d = true := decide_eq_true h
theorem okD_false {p : Int} {d : D} (h : ¬ (0 ≤ d.f0 ∧ d.f0 < p ∧ 0 ≤ d.f1 ∧ d.f1 < p ∧ d.f0 ≠ d.f1 ∧ 1 ≤ d.f2 ∧ d.f2 ≤ 100000000)) : okD p d = false := decide_eq_false h
theorem l00In_f (a b c : Int) : spec_l00In.f a b c = some (decide (b ≤ a ∧ a ≤ c)) := by
  unfold spec_l00In.f
  by_cases h : a ≥ b
  · rw [if_pos h]; congr 1; simp [show b ≤ a from h]
  · rw [if_neg h]; congr 1; simp [show ¬ b ≤ a from h]
theorem l02Person_f (p a : Int) (h : 1 ≤ p) (h2 : p ≤ 16) : spec_l02Person.f p a = some (decide (0 ≤ a ∧ a < p)) := by
  unfold spec_l02Person.f
  rw [wrap_id (by omega) (by omega), l00In_f]
  simp only [Option.bind_some]
  congr 1
  rw [decide_eq_decide]
  omega
theorem l02Ok_ev (p : Int) (l : List D) (hl : l.length ≤ maxLen) : Ev (fun k => spec_l02Ok.f k p l) (valid p l) := by
  unfold spec_l02Ok.f valid
  unfold maxLen at hl
  rw [l00In_f]
  by_cases hp : 1 ≤ p ∧ p ≤ 16
  · refine ev_bind0 rfl (ev_pos (by simpa using hp) ?_)
    by_cases h60 : l.length ≤ 60
    · have key := fun (i : Nat) (hi : i ≤ l.length) => ev_for (n := l.length) (G := fun k (_ : Unit) i => spec_l02Ok.l0 k p l i) (F := fun _ i => (l.drop i).all (okD p)) (fun i hi ih _ => by
        rw [all_drop _ _ _ hi]
        have hS : ∀ k, spec_l02Ok.l0 (k + 1) p l (i : Int) = if okD p l[i] = true then spec_l02Ok.l0 k p l ((i : Int) + 1) else some false := by
          intro k
          simp only [spec_l02Ok.l0]
          rw [if_pos (by omega), if_pos (by omega), rdD l i hi, l02Person_f _ _ hp.1 hp.2, l02Person_f _ _ hp.1 hp.2, l00In_f, wrap_up hi (by omega)]
          simp only [Option.bind_some, decide_eq_true_eq, okD]
          by_cases h1 : 0 ≤ l[i].f0 ∧ l[i].f0 < p
          · by_cases h2 : 0 ≤ l[i].f1 ∧ l[i].f1 < p
            · by_cases h3 : l[i].f0 = l[i].f1
              · rw [if_pos h1, if_pos h2, if_pos h3, if_neg (by omega)]
              · by_cases h4 : 1 ≤ l[i].f2 ∧ l[i].f2 ≤ 100000000
                · rw [if_pos h1, if_pos h2, if_neg h3, if_pos h4, if_pos (by omega)]
                · rw [if_pos h1, if_pos h2, if_neg h3, if_neg h4, if_neg (by omega)]
            · rw [if_pos h1, if_neg h2, if_neg (by omega)]
          · rw [if_neg h1, if_neg (by omega)]
        refine Ev.step hS ?_
        cases okD p l[i]
        · exact Ev.now _
        · exact ih ()) (fun _ => by
        refine ev_eq (Ev.step (f := fun _ => some true) (fun k => ?_) (Ev.now _)) ?_
        · simp only [spec_l02Ok.l0]
          rw [if_neg (by omega)]
        · simp) i hi ()
      refine ev_eq (Ev.step (f := fun k => spec_l02Ok.l0 k p l 0) (fun k => ?_) (key 0 (by omega))) ?_
      · simp only [spec_l02Ok.j0]
        rw [if_neg (by simpa using by omega)]
      · simp [hp, h60]
    · refine ev_eq (Ev.step (f := fun _ => some false) (fun k => ?_) (Ev.now _)) ?_
      · simp only [spec_l02Ok.j0]
        rw [if_pos (by simpa using by omega)]
      · simp [h60]
  · refine ev_bind0 rfl (ev_neg (by simpa using hp) (ev_eq (Ev.step (f := fun _ => some false) (fun k => ?_) (Ev.now _)) ?_))
    · simp only [spec_l02Ok.j0]
      rfl
    · simp only [decide_eq_false (show ¬ (1 ≤ p ∧ p ≤ 16 ∧ l.length ≤ 60) by omega), Bool.false_and]
theorem ValidI_ev (p : Int) (l : List D) (hl : l.length ≤ maxLen) : Ev (fun k => impl_ValidDebts.f k p l) (valid p l) := by
  unfold impl_ValidDebts.f valid
  unfold maxLen at hl
  have hj : ∀ k, impl_ValidDebts.j0 (k + 1) p l true = some false := fun k => by simp only [impl_ValidDebts.j0]; rfl
  by_cases h1 : p < 1
  · refine ev_pos h1 (ev_eq (Ev.step (f := fun _ => some false) hj (Ev.now _)) ?_)
    simp only [decide_eq_false (show ¬ (1 ≤ p ∧ p ≤ 16 ∧ l.length ≤ 60) by omega), Bool.false_and]
  · refine ev_neg h1 ?_
    by_cases h2 : p > 16
    · refine ev_pos h2 (ev_eq (Ev.step (f := fun _ => some false) hj (Ev.now _)) ?_)
      simp only [decide_eq_false (show ¬ (1 ≤ p ∧ p ≤ 16 ∧ l.length ≤ 60) by omega), Bool.false_and]
    · refine ev_neg h2 ?_
      by_cases h60 : l.length ≤ 60
      · have key := fun (i : Nat) (hi : i ≤ l.length) => ev_for (n := l.length) (G := fun k (_ : Unit) i => impl_ValidDebts.l0 k p l (l.length : Int) i) (F := fun _ i => (l.drop i).all (okD p)) (fun i hi ih _ => by
          rw [all_drop _ _ _ hi]
          have hS : ∀ k, impl_ValidDebts.l0 (k + 1) p l (l.length : Int) (i : Int) = if okD p l[i] = true then impl_ValidDebts.l0 k p l (l.length : Int) ((i : Int) + 1) else some false := by
            intro k
            simp only [impl_ValidDebts.l0]
            rw [if_pos (by omega), if_pos (by omega), if_pos (by omega), rdD l i hi, wrap_up hi (by omega)]
            by_cases hk : okD p l[i] = true
            · have hk' := of_decide_eq_true hk
              rw [if_pos hk, if_neg (by omega), if_neg (by omega), if_neg (by omega), if_neg (by omega), if_neg (by omega), if_neg (by omega), if_neg (by omega)]
            · have hk' := of_decide_eq_false (Bool.eq_false_iff.mpr hk)
              rw [if_neg hk]
              repeat' first | rfl | (split <;> first | rfl | skip)
              omega
          refine Ev.step hS ?_
          cases okD p l[i]
          · exact Ev.now _
          · exact ih ()) (fun _ => by
          refine ev_eq (Ev.step (f := fun _ => some true) (fun k => ?_) (Ev.now _)) ?_
          · simp only [impl_ValidDebts.l0]
            rw [if_neg (by omega)]
          · simp) i hi ()
        refine ev_eq (Ev.step (f := fun k => impl_ValidDebts.l0 k p l (l.length : Int) 0) (fun k => ?_) (key 0 (by omega))) ?_
        · simp only [impl_ValidDebts.j0]
          rw [if_neg (by simpa using by omega)]
        · rw [decide_eq_true (show 1 ≤ p ∧ p ≤ 16 ∧ l.length ≤ 60 by omega)]; simp
      · refine ev_eq (Ev.step (f := fun _ => some false) (fun k => ?_) (Ev.now _)) ?_
        · simp only [impl_ValidDebts.j0]
          rw [if_pos (by simpa using by omega)]
        · simp [h60]
end Go.Proofs.YtfjmljgbdejghaaDoor.PuDebtNets
-- a text of this session, cut down for this claim
namespace Go.Proofs.YtfjmljgbdejghaaDoor.PuDebtSNets
open Go.RowKit Go.Proofs.YtfjmljgbdejghaaDoor.MNets Go.Proofs.YtfjmljgbdejghaaDoorW.PrintWords Go.Proofs.YtfjmljgbdejghaaDoorW.PrintLast Go.Proofs.YtfjmljgbdejghaaDoor.Evs Go.Proofs.YtfjmljgbdejghaaDoor.PuDebtNets
set_option linter.unusedVariables false
set_option linter.unusedSimpArgs false
theorem D.eq_iff (a b : D) : a = b ↔ a.f0 = b.f0 ∧ a.f1 = b.f1 ∧ a.f2 = b.f2 := ⟨fun h => by subst h; exact ⟨rfl, rfl, rfl⟩, fun h => D.ext h.1 h.2.1 h.2.2⟩
theorem drop_eq_iff {α : Type} (a b : List α) (i : Nat) (ha : i < a.length) (hb : i < b.length) : a.drop i = b.drop i ↔ a[i] = b[i] ∧ a.drop (i + 1) = b.drop (i + 1) := by
  rw [List.drop_eq_getElem_cons ha, List.drop_eq_getElem_cons hb, List.cons.injEq]
theorem l02Same_ev (a b : List D) (h : a.length ≤ maxLen) : Ev (fun k => spec_l02Same.f k a b) (dec (a = b)) := by
  unfold spec_l02Same.f
  unfold maxLen at h
  by_cases hl : a.length = b.length
  · refine ev_pos (by omega) ?_
    have key := fun (i : Nat) (hi : i ≤ a.length) => ev_for (n := a.length) (G := fun k (_ : Unit) i => spec_l02Same.l0 k a b i) (F := fun _ i => dec (a.drop i = b.drop i)) (fun i hi ih _ => by
      have hr : (!(a[i].f0 == b[i].f0) || (!(a[i].f1 == b[i].f1) || !(a[i].f2 == b[i].f2))) = true ↔ ¬ a[i] = b[i] := by
        rw [D.eq_iff]; simp; omega
      by_cases he : a[i] = b[i]
      · refine ev_eq (Ev.step (fun k => ?_) (ih ())) ?_
        · simp only [spec_l02Same.l0]
          rw [if_pos (by omega), if_pos (by omega), if_pos (by omega), rdD a i hi, rdD b i (by omega), if_neg (by rw [hr]; exact fun h => h he), wrap_up hi (by omega)]
        · congr 1
          rw [drop_eq_iff a b i hi (by omega)]
          simp [he]
      · refine ev_eq (Ev.step (f := fun _ => some false) (fun k => ?_) (Ev.now _)) ?_
        · simp only [spec_l02Same.l0]
          rw [if_pos (by omega), if_pos (by omega), if_pos (by omega), rdD a i hi, rdD b i (by omega), if_pos (hr.2 he)]
        · rw [drop_eq_iff a b i hi (by omega)]
          exact (dec_false (fun h => he h.1)).symm) (fun _ => by
      refine ev_eq (Ev.step (f := fun _ => some true) (fun k => ?_) (Ev.now _)) ?_
      · simp only [spec_l02Same.l0]
        rw [if_neg (by omega)]
      · exact (dec_true (by rw [List.drop_of_length_le (by omega), List.drop_of_length_le (by omega)])).symm) i hi ()
    simpa using key 0 (by omega)
  · refine ev_neg (by omega) (ev_eq (Ev.now false) (dec_false (fun h => hl (by rw [h]))).symm)
theorem SameS_ev (a b : List D) (h : a.length ≤ maxLen) : Ev (fun k => spec_SameDebts.f k a b) (dec (a = b)) := by
  unfold spec_SameDebts.f
  exact Ev.bind (l02Same_ev a b h) (Ev.now _)
theorem equal_ev (a b : List D) (h : a.length ≤ maxLen) : Ev (fun k => impl_Debt.f k a b) (dec (a = b)) := by
  unfold impl_Debt.f
  unfold maxLen at h
  by_cases hl : a.length = b.length
  · refine ev_pos (by omega) ?_
    have key := fun (i : Nat) (hi : i ≤ a.length) => ev_for (n := a.length) (G := fun k (_ : Unit) i => impl_Debt.l0 k a b (a.length : Int) i) (F := fun _ i => dec (a.drop i = b.drop i)) (fun i hi ih _ => by
      have hr : (!(a[i].f0 == b[i].f0) || (!(a[i].f1 == b[i].f1) || !(a[i].f2 == b[i].f2))) = true ↔ ¬ a[i] = b[i] := by
        rw [D.eq_iff]; simp; omega
      by_cases he : a[i] = b[i]
      · refine ev_eq (Ev.step (fun k => ?_) (ih ())) ?_
        · simp only [impl_Debt.l0]
          rw [if_pos (by omega), if_pos (by omega), if_pos (by omega), if_pos (by omega), rdD a i hi, rdD b i (by omega), if_neg (by rw [hr]; exact fun h => h he), wrap_up hi (by omega)]
        · congr 1
          rw [drop_eq_iff a b i hi (by omega)]
          simp [he]
      · refine ev_eq (Ev.step (f := fun _ => some false) (fun k => ?_) (Ev.now _)) ?_
        · simp only [impl_Debt.l0]
          rw [if_pos (by omega), if_pos (by omega), if_pos (by omega), if_pos (by omega), rdD a i hi, rdD b i (by omega), if_pos (hr.2 he)]
        · rw [drop_eq_iff a b i hi (by omega)]
          exact (dec_false (fun h => he h.1)).symm) (fun _ => by
      refine ev_eq (Ev.step (f := fun _ => some true) (fun k => ?_) (Ev.now _)) ?_
      · simp only [impl_Debt.l0]
        rw [if_neg (by omega)]
      · exact (dec_true (by rw [List.drop_of_length_le (by omega), List.drop_of_length_le (by omega)])).symm) i hi ()
    simpa using key 0 (by omega)
  · refine ev_neg (by omega) (ev_eq (Ev.now false) (dec_false (fun h => hl (by rw [h]))).symm)
theorem SameI_ev (a b : List D) (h : a.length ≤ maxLen) : Ev (fun k => impl_SameDebts.f k a b) (dec (a = b)) := by
  unfold impl_SameDebts.f
  exact Ev.bind (equal_ev a b h) (Ev.now _)
end Go.Proofs.YtfjmljgbdejghaaDoor.PuDebtSNets
-- a text of this session, cut down for this claim
namespace Go.Proofs.YtfjmljgbdejghaaDoor.PuSameINets
open Go.RowKit Go.Proofs.YtfjmljgbdejghaaDoor.MNets Go.Proofs.YtfjmljgbdejghaaDoorW.PrintWords Go.Proofs.YtfjmljgbdejghaaDoorW.PrintLast Go.Proofs.YtfjmljgbdejghaaDoor.Evs Go.Proofs.YtfjmljgbdejghaaDoor.PuDebtNets
set_option linter.unusedVariables false
set_option linter.unusedSimpArgs false
theorem drop_eq_iff (a b : List Int) (i : Nat) (ha : i < a.length) (hb : i < b.length) : a.drop i = b.drop i ↔ a[i] = b[i] ∧ a.drop (i + 1) = b.drop (i + 1) := by
  rw [List.drop_eq_getElem_cons ha, List.drop_eq_getElem_cons hb, List.cons.injEq]
theorem l00Same_ev (a b : List Int) (h : a.length ≤ maxLen) : Ev (fun k => spec_l00Same.f k a b) (dec (a = b)) := by
  unfold spec_l00Same.f
  unfold maxLen at h
  by_cases hl : a.length = b.length
  · refine ev_pos (by omega) ?_
    have key := fun (i : Nat) (hi : i ≤ a.length) => ev_for (n := a.length) (G := fun k (_ : Unit) i => spec_l00Same.l0 k a b i) (F := fun _ i => dec (a.drop i = b.drop i)) (fun i hi ih _ => by
      by_cases he : a[i] = b[i]
      · refine ev_eq (Ev.step (fun k => ?_) (ih ())) ?_
        · simp only [spec_l00Same.l0]
          rw [if_pos (by omega), if_pos (by omega), if_pos (by omega), show rd a (i : Int) = a[i] from getD_lt a _ i hi, show rd b (i : Int) = b[i]'(by omega) from getD_lt b _ i (by omega), if_pos he, wrap_up hi (by omega)]
        · congr 1
          rw [drop_eq_iff a b i hi (by omega)]
          simp [he]
      · refine ev_eq (Ev.step (f := fun _ => some false) (fun k => ?_) (Ev.now _)) ?_
        · simp only [spec_l00Same.l0]
          rw [if_pos (by omega), if_pos (by omega), if_pos (by omega), show rd a (i : Int) = a[i] from getD_lt a _ i hi, show rd b (i : Int) = b[i]'(by omega) from getD_lt b _ i (by omega), if_neg he]
        · rw [drop_eq_iff a b i hi (by omega)]
          exact (dec_false (fun h => he h.1)).symm) (fun _ => by
      refine ev_eq (Ev.step (f := fun _ => some true) (fun k => ?_) (Ev.now _)) ?_
      · simp only [spec_l00Same.l0]
        rw [if_neg (by omega)]
      · exact (dec_true (by rw [List.drop_of_length_le (by omega), List.drop_of_length_le (by omega)])).symm) i hi ()
    simpa using key 0 (by omega)
  · refine ev_neg (by omega) (ev_eq (Ev.now false) (dec_false (fun h => hl (by rw [h]))).symm)
end Go.Proofs.YtfjmljgbdejghaaDoor.PuSameINets
-- a text of this session, cut down for this claim
namespace Go.Proofs.YtfjmljgbdejghaaDoor.PuTableNets
open Go.RowKit Go.Proofs.YtfjmljgbdejghaaDoor.MNets Go.Proofs.YtfjmljgbdejghaaDoorW.PrintWords Go.Proofs.YtfjmljgbdejghaaDoorW.PrintLast Go.Proofs.YtfjmljgbdejghaaDoor.Evs Go.Proofs.YtfjmljgbdejghaaDoor.PuDebtNets
set_option linter.unusedVariables false
set_option linter.unusedSimpArgs false
abbrev Tb := Vector Int 256
def tg (t : Tb) (i k : Nat) : Int := t.toList.getD (i * 16 + k) 0
theorem vrd2_n (t : Tb) (i k : Int) : Arr.vrd2 16 t i k = tg t i.toNat k.toNat := rfl
theorem vrow_n (t : Tb) (i k : Int) (h : k.toNat < 16) : Arr.vrd (Arr.vrow 16 t i) k = tg t i.toNat k.toNat := by
  unfold Arr.vrd tg
  rw [Arr.vrow_getD 16 t i k.toNat h]
theorem tg_set (t : Tb) (i k a b : Nat) (y : Int) (hk : k < 16) (hi : i < 16) (hb : b < 16) (ha : a < 16) : tg (Arr.vst2 16 t (i : Int) (k : Int) y) a b = if a = i ∧ b = k then y else tg t a b := by
  unfold tg Arr.vst2
  rw [Vector.toList_setIfInBounds, Int.toNat_natCast, Int.toNat_natCast, List.getD_eq_getElem?_getD, List.getD_eq_getElem?_getD, List.getElem?_set]
  by_cases h : a = i ∧ b = k
  · obtain ⟨rfl, rfl⟩ := h
    have hlt : a * 16 + b < 256 := by omega
    simp [hlt]
  · rw [if_neg (show ¬ (i * 16 + k = a * 16 + b) by omega), if_neg h]
theorem tg_ext (t u : Tb) (h : ∀ i k, i < 16 → k < 16 → tg t i k = tg u i k) : t = u := by
  refine Arr.ext_getD t u (fun q hq => ?_)
  have := h (q / 16) (q % 16) (by omega) (by omega)
  unfold tg at this
  rwa [show q / 16 * 16 + q % 16 = q by omega] at this
def zeroT : Tb := (Vector.replicate 256 0 : Vector Int 256)
theorem tg_zero (i k : Nat) : tg zeroT i k = 0 := by
  unfold tg zeroT
  rw [List.getD_eq_getElem?_getD]
  simp only [Vector.toList_replicate, List.getElem?_replicate]
  split <;> rfl
def addT (t : Tb) (d : D) : Tb := Arr.vst2 16 t d.f0 d.f1 (wrap64 (Arr.vrd2 16 t d.f0 d.f1 + d.f2))
def sumT (l : List D) : Tb := l.foldl addT zeroT
theorem foldT_drop (l : List D) (t : Tb) (i : Nat) (h : i < l.length) : (l.drop i).foldl addT t = (l.drop (i + 1)).foldl addT (addT t l[i]) := by
  rw [List.drop_eq_getElem_cons h]; rfl
theorem valid_bd {p : Int} {l : List D} (h : valid p l = true) : 1 ≤ p ∧ p ≤ 16 ∧ l.length ≤ 60 ∧ ∀ d ∈ l, 0 ≤ d.f0 ∧ d.f0 < p ∧ 0 ≤ d.f1 ∧ d.f1 < p ∧ d.f0 ≠ d.f1 ∧ 1 ≤ d.f2 ∧ d.f2 ≤ 100000000 := by
  simp only [valid, Bool.and_eq_true, decide_eq_true_eq, List.all_eq_true] at h
  exact ⟨h.1.1, h.1.2.1, h.1.2.2, fun d hd => of_decide_eq_true (h.2 d hd)⟩
theorem sumsS_ev (p : Int) (l : List D) (hv : valid p l = true) : Ev (fun k => spec_l02Sums.f k l) (sumT l) := by
  obtain ⟨hp, hp2, h60, hd⟩ := valid_bd hv
  unfold spec_l02Sums.f sumT
  refine ev_for (n := l.length) (G := fun k (s : Tb) i => spec_l02Sums.l0 k l i s) (F := fun s i => (l.drop i).foldl addT s) (fun i hi ih s => ?_) (fun s => ?_) 0 (by omega) zeroT
  · have hb := hd l[i] (List.getElem_mem hi)
    refine ev_eq (Ev.step (fun k => ?_) (ih (addT s l[i]))) (foldT_drop l s i hi).symm
    simp only [spec_l02Sums.l0]
    rw [if_pos (by omega), if_pos (by omega), rdD l i hi, if_pos (by omega), if_pos (by omega), if_pos (by omega), if_pos (by omega), wrap_up hi (by omega)]
    rfl
  · refine ev_eq (Ev.step (f := fun _ => some s) (fun k => ?_) (Ev.now _)) (by rw [List.drop_length]; rfl)
    simp only [spec_l02Sums.l0]
    rw [if_neg (by omega)]
theorem sumsI_ev (p : Int) (l : List D) (hv : valid p l = true) : Ev (fun k => impl_sumsOf.f k l) (sumT l) := by
  obtain ⟨hp, hp2, h60, hd⟩ := valid_bd hv
  unfold impl_sumsOf.f sumT
  refine ev_for (n := l.length) (G := fun k (s : Tb) i => impl_sumsOf.l0 k l (l.length : Int) i s) (F := fun s i => (l.drop i).foldl addT s) (fun i hi ih s => ?_) (fun s => ?_) 0 (by omega) zeroT
  · have hb := hd l[i] (List.getElem_mem hi)
    refine ev_eq (Ev.step (fun k => ?_) (ih (addT s l[i]))) (foldT_drop l s i hi).symm
    simp only [impl_sumsOf.l0]
    rw [if_pos (by omega), if_pos (by omega), if_pos (by omega), rdD l i hi, if_pos (by omega), if_pos (by omega), if_pos (by omega), if_pos (by omega), wrap_up hi (by omega)]
    rfl
  · refine ev_eq (Ev.step (f := fun _ => some s) (fun k => ?_) (Ev.now _)) (by rw [List.drop_length]; rfl)
    simp only [impl_sumsOf.l0]
    rw [if_neg (by omega)]
def okP (p a : Int) : Bool := decide (0 ≤ a ∧ a < p)
def arePs (p : Int) (l : List Int) : Bool := l.all (okP p)
def codeD (p : Int) (l : List D) (who : List Int) : Int := if valid p l = true then (if arePs p who = true then 0 else 2) else 1
theorem arePs_drop (p : Int) (l : List Int) (i : Nat) (h : i < l.length) : arePs p (l.drop i) = (okP p l[i] && arePs p (l.drop (i + 1))) := by
  unfold arePs
  rw [List.drop_eq_getElem_cons h]; rfl
theorem peopleI_ev (p : Int) (l : List Int) (hl : l.length ≤ maxLen) : Ev (fun k => impl_arePeople.f k p l) (arePs p l) := by
  unfold impl_arePeople.f
  unfold maxLen at hl
  refine ev_eq (ev_for (n := l.length) (G := fun k (_ : Unit) i => impl_arePeople.l0 k p l (l.length : Int) i) (F := fun _ i => arePs p (l.drop i)) (fun i hi ih s => ?_) (fun s => ?_) 0 (by omega) ()) (by simp)
  · rw [arePs_drop p l i hi]
    have hr : rd l (i : Int) = l[i] := getD_lt l _ i hi
    by_cases h1 : l[i] < 0
    · refine ev_eq (Ev.step (f := fun _ => some false) (fun k => ?_) (Ev.now _)) ?_
      · simp only [impl_arePeople.l0]
        rw [if_pos (by omega), if_pos (by omega), if_pos (by omega), hr, if_pos h1]
      · rw [show okP p l[i] = false from decide_eq_false (by omega)]; rfl
    · by_cases h2 : l[i] ≥ p
      · refine ev_eq (Ev.step (f := fun _ => some false) (fun k => ?_) (Ev.now _)) ?_
        · simp only [impl_arePeople.l0]
          rw [if_pos (by omega), if_pos (by omega), if_pos (by omega), hr, if_neg h1, if_pos h2]
        · rw [show okP p l[i] = false from decide_eq_false (by omega)]; rfl
      · refine ev_eq (Ev.step (fun k => ?_) (ih ())) ?_
        · simp only [impl_arePeople.l0]
          rw [if_pos (by omega), if_pos (by omega), if_pos (by omega), hr, if_neg h1, if_neg h2, wrap_up hi (by omega)]
        · rw [show okP p l[i] = true from decide_eq_true (by omega)]; rfl
  · refine ev_eq (Ev.step (f := fun _ => some true) (fun k => ?_) (Ev.now _)) (by rw [List.drop_length]; rfl)
    simp only [impl_arePeople.l0]
    rw [if_neg (by omega)]
theorem codeI_ev (p : Int) (l : List D) (who : List Int) (hl : l.length ≤ maxLen) (hw : who.length ≤ maxLen) : Ev (fun k => impl_debtsCode.f k p l who) (codeD p l who) := by
  unfold impl_debtsCode.f codeD
  refine Ev.bind (ValidI_ev p l hl) ?_
  by_cases hv : valid p l = true
  · refine ev_ifp hv (ev_pos hv (Ev.bind (peopleI_ev p who hw) ?_))
    by_cases h2 : arePs p who = true
    · exact ev_ifp h2 (ev_pos h2 (Ev.now _))
    · exact ev_ifn h2 (ev_neg h2 (Ev.now _))
  · exact ev_ifn hv (ev_neg hv (Ev.now _))
theorem code_zero {p : Int} {l : List D} {who : List Int} (h : codeD p l who = 0) : valid p l = true ∧ ∀ a ∈ who, 0 ≤ a ∧ a < p := by
  unfold codeD at h
  by_cases hv : valid p l = true
  · rw [if_pos hv] at h
    by_cases h2 : arePs p who = true
    · refine ⟨hv, fun a ha => ?_⟩
      exact of_decide_eq_true (List.all_eq_true.1 h2 a ha)
    · rw [if_neg h2] at h; cases h
  · rw [if_neg hv] at h; cases h
def owedR (p : Int) (l : List D) (a b : Int) : Int × Int := if codeD p l [a, b] = 0 then (tg (sumT l) a.toNat b.toNat, 0) else (0, codeD p l [a, b])
theorem OwedI_ev (p : Int) (l : List D) (a b : Int) (hl : l.length ≤ maxLen) : Ev (fun k => impl_OwedBetween.f k p l a b) (owedR p l a b) := by
  unfold impl_OwedBetween.f owedR
  refine Ev.bind (codeI_ev p l [a, b] hl (by simp [maxLen])) ?_
  by_cases h : codeD p l [a, b] = 0
  · obtain ⟨hv, hw⟩ := code_zero h
    obtain ⟨hp, hp2, h60, hd⟩ := valid_bd hv
    have h1 := hw a (by simp)
    have h2 := hw b (by simp)
    refine ev_ifp h (ev_pos h (Ev.bind (sumsI_ev p l hv) ?_))
    refine ev_pos (by omega) (ev_pos (by omega) (ev_pos (by omega) (ev_pos (by omega) (ev_eq (Ev.now _) ?_))))
    rw [vrow_n _ _ _ (by omega)]
  · exact ev_ifn h (ev_neg h (Ev.now _))
end Go.Proofs.YtfjmljgbdejghaaDoor.PuTableNets
-- a text of this session, cut down for this claim
namespace Go.Proofs.YtfjmljgbdejghaaDoor.PuTableLNets
open Go.RowKit Go.Proofs.YtfjmljgbdejghaaDoor.MNets Go.Proofs.YtfjmljgbdejghaaDoorW.PrintWords Go.Proofs.YtfjmljgbdejghaaDoorW.PrintLast Go.Proofs.YtfjmljgbdejghaaDoor.Evs Go.Proofs.YtfjmljgbdejghaaDoor.PuDebtNets Go.Proofs.YtfjmljgbdejghaaDoor.PuTableNets
set_option linter.unusedVariables false
set_option linter.unusedSimpArgs false
def tq (t : Tb) (q : Nat) : Int := tg t (q / 16) (q % 16)
def dq (t : Tb) (q : Nat) : D := ⟨((q / 16 : Nat) : Int), ((q % 16 : Nat) : Int), tq t q⟩
def cellsFrom (t : Tb) (q : Nat) : List D := ((List.range' q (256 - q)).filter fun x => decide (0 < tq t x)).map (dq t)
def overFrom (t : Tb) (q : Nat) : Bool := (List.range' q (256 - q)).any fun x => decide (100000000 < tq t x)
theorem cells_step (t : Tb) (q : Nat) (h : q < 256) : cellsFrom t q = if 0 < tq t q then dq t q :: cellsFrom t (q + 1) else cellsFrom t (q + 1) := by
  unfold cellsFrom
  rw [show 256 - q = (256 - (q + 1)) + 1 by omega, List.range'_succ, List.filter_cons]
  by_cases e : 0 < tq t q
  · simp [e]
  · simp [e]
theorem over_step (t : Tb) (q : Nat) (h : q < 256) : overFrom t q = (decide (100000000 < tq t q) || overFrom t (q + 1)) := by
  unfold overFrom
  rw [show 256 - q = (256 - (q + 1)) + 1 by omega, List.range'_succ, List.any_cons]
theorem cells_end (t : Tb) : cellsFrom t 256 = [] := rfl
theorem over_end (t : Tb) : overFrom t 256 = false := rfl
def goL (t : Tb) (out : List D) (q : Nat) : List D × Int := if overFrom t q = true then ([], 3) else if 60 < (out ++ cellsFrom t q).length then ([], 3) else (out ++ cellsFrom t q, 0)
def listR (t : Tb) : List D × Int := goL t [] 0
theorem goL_over (t : Tb) (out : List D) (q : Nat) (h : q < 256) (ho : 100000000 < tq t q) : goL t out q = ([], 3) := by
  unfold goL
  rw [over_step t q h, decide_eq_true ho, Bool.true_or, if_pos rfl]
theorem goL_take (t : Tb) (out : List D) (q : Nat) (h : q < 256) (ho : ¬ 100000000 < tq t q) (h0 : 0 < tq t q) : goL t out q = goL t (out ++ [dq t q]) (q + 1) := by
  unfold goL
  rw [over_step t q h, decide_eq_false ho, Bool.false_or, cells_step t q h, if_pos h0, List.append_assoc]
  rfl
theorem goL_skip (t : Tb) (out : List D) (q : Nat) (h : q < 256) (ho : ¬ 100000000 < tq t q) (h0 : ¬ 0 < tq t q) : goL t out q = goL t out (q + 1) := by
  unfold goL
  rw [over_step t q h, decide_eq_false ho, Bool.false_or, cells_step t q h, if_neg h0]
theorem goL_end (t : Tb) (out : List D) : goL t out 256 = if 60 < out.length then ([], 3) else (out, 0) := by
  unfold goL
  rw [over_end, cells_end, List.append_nil]
  rfl
theorem tq_at (t : Tb) (i k : Nat) (hk : k < 16) : tq t (16 * i + k) = tg t i k := by
  unfold tq
  rw [show (16 * i + k) / 16 = i by omega, show (16 * i + k) % 16 = k by omega]
theorem dq_at (t : Tb) (i k : Nat) (hk : k < 16) : dq t (16 * i + k) = ⟨(i : Int), (k : Int), tg t i k⟩ := by
  unfold dq
  rw [tq_at t i k hk, show (16 * i + k) / 16 = i by omega, show (16 * i + k) % 16 = k by omega]
theorem vrd2_nn (t : Tb) (i k : Nat) : Arr.vrd2 16 t (i : Int) (k : Int) = tg t i k := by
  rw [vrd2_n, Int.toNat_natCast, Int.toNat_natCast]
theorem listS_ev (t : Tb) : Ev (fun k => spec_l02List.f k t) ((listR t).1, (listR t).2, t) := by
  unfold spec_l02List.f listR
  refine ev_forI (n := 16) (G := fun k out i => spec_l02List.l0 k out i t) (F := fun out i => ((goL t out (16 * i)).1, (goL t out (16 * i)).2, t)) (I := fun out i => out.length ≤ 16 * i) (fun i hi ih out hI => ?_) (fun out hI => ?_) 0 (by omega) [] (by simp)
  · refine Ev.step (f := fun k => spec_l02List.l1 k out (i : Int) 0 t) (fun k => by simp only [spec_l02List.l0]; rw [if_pos (by omega)]) ?_
    refine ev_forI (n := 16) (G := fun k out q => spec_l02List.l1 k out (i : Int) q t) (F := fun out q => ((goL t out (16 * i + q)).1, (goL t out (16 * i + q)).2, t)) (I := fun out q => out.length ≤ 16 * i + q) (fun q hq ih2 out hI => ?_) (fun out hI => ?_) 0 (by omega) out (by omega)
    · have hlt : 16 * i + q < 256 := by omega
      have e1 := tq_at t i q hq
      have e2 := dq_at t i q hq
      by_cases ho : 100000000 < tg t i q
      · refine ev_eq (Ev.step (f := fun _ => some ([], 3, t)) (fun k => ?_) (Ev.now _)) ?_
        · simp only [spec_l02List.l1]
          rw [if_pos (by omega), if_pos (by omega), if_pos (by omega), if_pos (by omega), vrd2_nn, if_pos (by omega)]
        · rw [goL_over t out _ hlt (by rw [e1]; exact ho)]
      · by_cases h0 : 0 < tg t i q
        · refine ev_eq (Ev.step (fun k => ?_) (ih2 (out ++ [⟨(i : Int), (q : Int), tg t i q⟩]) (by simp; omega))) ?_
          · simp only [spec_l02List.l1]
            rw [if_pos (by omega), if_pos (by omega), if_pos (by omega), if_pos (by omega), vrd2_nn, if_neg (by omega), if_pos (by omega), if_pos (by omega), wrap_up hq (by omega)]
          · show ((goL t (out ++ [⟨(i : Int), (q : Int), tg t i q⟩]) (16 * i + q + 1)).1, (goL t (out ++ [⟨(i : Int), (q : Int), tg t i q⟩]) (16 * i + q + 1)).2, t) = _
            rw [goL_take t out _ hlt (by rw [e1]; exact ho) (by rw [e1]; exact h0), e2]
        · refine ev_eq (Ev.step (fun k => ?_) (ih2 out (by omega))) ?_
          · simp only [spec_l02List.l1]
            rw [if_pos (by omega), if_pos (by omega), if_pos (by omega), if_pos (by omega), vrd2_nn, if_neg (by omega), if_neg (by omega), wrap_up hq (by omega)]
          · show ((goL t out (16 * i + q + 1)).1, (goL t out (16 * i + q + 1)).2, t) = _
            rw [goL_skip t out _ hlt (by rw [e1]; exact ho) (by rw [e1]; exact h0)]
    · refine ev_eq (Ev.step (fun k => ?_) (ih out (by omega))) ?_
      · simp only [spec_l02List.l1]
        rw [if_neg (by omega), wrap_up hi (by omega)]
      · show ((goL t out (16 * (i + 1))).1, (goL t out (16 * (i + 1))).2, t) = _
        rw [show 16 * (i + 1) = 16 * i + 16 by omega]
  · rw [show 16 * 16 = 256 by rfl, goL_end]
    by_cases h : 60 < out.length
    · rw [if_pos h]
      refine Ev.step (f := fun _ => some ([], 3, t)) (fun k => ?_) (Ev.now _)
      simp only [spec_l02List.l0]
      rw [if_neg (by omega), if_pos (by omega)]
    · rw [if_neg h]
      refine Ev.step (f := fun _ => some (out, 0, t)) (fun k => ?_) (Ev.now _)
      simp only [spec_l02List.l0]
      rw [if_neg (by omega), if_neg (by omega)]
theorem vrow_nn (t : Tb) (i k : Nat) (h : k < 16) : Arr.vrd (Arr.vrow 16 t (i : Int)) (k : Int) = tg t i k := by
  rw [vrow_n t i k (by omega), Int.toNat_natCast, Int.toNat_natCast]
theorem listI_ev (t : Tb) : Ev (fun k => impl_sums_debts.f k t) (listR t) := by
  unfold impl_sums_debts.f listR
  refine ev_forI (n := 16) (G := fun k out i => impl_sums_debts.l0 k out i t) (F := fun out i => goL t out (16 * i)) (I := fun out i => out.length ≤ 16 * i) (fun i hi ih out hI => ?_) (fun out hI => ?_) 0 (by omega) [] (by simp)
  · refine Ev.step (f := fun k => impl_sums_debts.l1 k out (i : Int) (i : Int) 0 t (Arr.vrow 16 t (i : Int))) (fun k => by simp only [impl_sums_debts.l0]; rw [if_pos (by omega), if_pos (by omega)]) ?_
    refine ev_forI (n := 16) (G := fun k out q => impl_sums_debts.l1 k out (i : Int) (i : Int) q t (Arr.vrow 16 t (i : Int))) (F := fun out q => goL t out (16 * i + q)) (I := fun out q => out.length ≤ 16 * i + q) (fun q hq ih2 out hI => ?_) (fun out hI => ?_) 0 (by omega) out (by omega)
    · have hlt : 16 * i + q < 256 := by omega
      have e1 := tq_at t i q hq
      have e2 := dq_at t i q hq
      by_cases ho : 100000000 < tg t i q
      · refine ev_eq (Ev.step (f := fun _ => some ([], 3)) (fun k => ?_) (Ev.now _)) ?_
        · simp only [impl_sums_debts.l1]
          rw [if_pos (by omega), if_pos (by omega), vrow_nn t i q hq, if_pos (by omega)]
        · rw [goL_over t out _ hlt (by rw [e1]; exact ho)]
      · by_cases h0 : 0 < tg t i q
        · refine ev_eq (Ev.step (fun k => ?_) (ih2 (out ++ [⟨(i : Int), (q : Int), tg t i q⟩]) (by simp; omega))) ?_
          · simp only [impl_sums_debts.l1]
            rw [if_pos (by omega), if_pos (by omega), vrow_nn t i q hq, if_neg (by omega), if_pos (by omega), if_pos (by omega), wrap_up hq (by omega)]
          · show goL t (out ++ [⟨(i : Int), (q : Int), tg t i q⟩]) (16 * i + q + 1) = _
            rw [goL_take t out _ hlt (by rw [e1]; exact ho) (by rw [e1]; exact h0), e2]
        · refine ev_eq (Ev.step (fun k => ?_) (ih2 out (by omega))) ?_
          · simp only [impl_sums_debts.l1]
            rw [if_pos (by omega), if_pos (by omega), vrow_nn t i q hq, if_neg (by omega), if_neg (by omega), wrap_up hq (by omega)]
          · show goL t out (16 * i + q + 1) = _
            rw [goL_skip t out _ hlt (by rw [e1]; exact ho) (by rw [e1]; exact h0)]
    · refine ev_eq (Ev.step (fun k => ?_) (ih out (by omega))) ?_
      · simp only [impl_sums_debts.l1]
        rw [if_neg (by omega), wrap_up hi (by omega)]
      · show goL t out (16 * (i + 1)) = _
        rw [show 16 * (i + 1) = 16 * i + 16 by omega]
  · rw [show 16 * 16 = 256 by rfl, goL_end]
    by_cases h : 60 < out.length
    · rw [if_pos h]
      refine Ev.step (f := fun _ => some ([], 3)) (fun k => ?_) (Ev.now _)
      simp only [impl_sums_debts.l0]
      rw [if_neg (by omega), if_pos (by omega)]
    · rw [if_neg h]
      refine Ev.step (f := fun _ => some (out, 0)) (fun k => ?_) (Ev.now _)
      simp only [impl_sums_debts.l0]
      rw [if_neg (by omega), if_neg (by omega)]
def joinR (p : Int) (l : List D) : List D × Int := if valid p l = true then listR (sumT l) else ([], 1)
theorem JoinS_ev (p : Int) (l : List D) (hl : l.length ≤ maxLen) : Ev (fun k => spec_JoinDebts.f k p l) (joinR p l) := by
  unfold spec_JoinDebts.f joinR
  refine Ev.bind (l02Ok_ev p l hl) ?_
  by_cases hv : valid p l = true
  · exact ev_ifp hv (ev_pos hv (Ev.bind (sumsS_ev p l hv) (Ev.bind (listS_ev _) (Ev.now _))))
  · exact ev_ifn hv (ev_neg hv (Ev.now _))
theorem JoinI_ev (p : Int) (l : List D) (hl : l.length ≤ maxLen) : Ev (fun k => impl_JoinDebts.f k p l) (joinR p l) := by
  unfold impl_JoinDebts.f joinR
  refine Ev.bind (ValidI_ev p l hl) ?_
  by_cases hv : valid p l = true
  · exact ev_ifp hv (ev_pos hv (Ev.bind (sumsI_ev p l hv) (Ev.bind (listI_ev _) (Ev.now _))))
  · exact ev_ifn hv (ev_neg hv (Ev.now _))
end Go.Proofs.YtfjmljgbdejghaaDoor.PuTableLNets
-- a text of this session, cut down for this claim
namespace Go.Proofs.YtfjmljgbdejghaaDoor.PuSumNetsNets
open Go.RowKit Go.Proofs.YtfjmljgbdejghaaDoor.MNets Go.Proofs.YtfjmljgbdejghaaDoorW.PrintWords Go.Proofs.YtfjmljgbdejghaaDoorW.PrintLast Go.Proofs.YtfjmljgbdejghaaDoor.Evs Go.Proofs.YtfjmljgbdejghaaDoor.PuDebtNets
set_option linter.unusedVariables false
set_option linter.unusedSimpArgs false
def sumD (l : List D) : Int := (l.map (·.f2)).sum
theorem sumD_drop (l : List D) (i : Nat) (h : i < l.length) : sumD (l.drop i) = l[i].f2 + sumD (l.drop (i + 1)) := by
  rw [List.drop_eq_getElem_cons h]; rfl
theorem valid_bd {p : Int} {l : List D} (h : valid p l = true) : 1 ≤ p ∧ p ≤ 16 ∧ l.length ≤ 60 ∧ ∀ d ∈ l, 0 ≤ d.f0 ∧ d.f0 < p ∧ 0 ≤ d.f1 ∧ d.f1 < p ∧ d.f0 ≠ d.f1 ∧ 1 ≤ d.f2 ∧ d.f2 ≤ 100000000 := by
  simp only [valid, Bool.and_eq_true, decide_eq_true_eq, List.all_eq_true] at h
  exact ⟨h.1.1, h.1.2.1, h.1.2.2, fun d hd => of_decide_eq_true (h.2 d hd)⟩
def sumR (p : Int) (l : List D) : Int × Int := if valid p l = true then (sumD l, 0) else (0, 1)
theorem SumI_ev (p : Int) (l : List D) (hl : l.length ≤ maxLen) : Ev (fun k => impl_SumOfDebts.f k p l) (sumR p l) := by
  unfold impl_SumOfDebts.f sumR
  refine Ev.bind (ValidI_ev p l hl) ?_
  by_cases hv : valid p l = true
  · obtain ⟨hp, hp2, h60, hd⟩ := valid_bd hv
    refine ev_pos hv ?_
    rw [if_pos hv]
    refine ev_eq (ev_forI (n := l.length) (G := fun k s i => impl_SumOfDebts.l0 k s l (l.length : Int) i) (F := fun s i => (s + sumD (l.drop i), 0)) (I := fun s i => 0 ≤ s ∧ s ≤ (i : Int) * 100000000)
      (fun i hi ih s hI => by
        have hb := hd l[i] (List.getElem_mem hi)
        refine ev_eq (Ev.step (f := fun k => impl_SumOfDebts.l0 k (s + l[i].f2) l (l.length : Int) ((i : Int) + 1)) (fun k => ?_) (ih (s + l[i].f2) ⟨by omega, by omega⟩)) ?_
        · simp only [impl_SumOfDebts.l0]
          rw [if_pos (by omega), if_pos (by omega), if_pos (by omega), rdD l i hi, wrap_up hi (by omega), wrap_id (by omega) (by omega)]
        · rw [sumD_drop l i hi, Int.add_assoc])
      (fun s hI => by
        refine ev_eq (Ev.step (f := fun _ => some (s, 0)) (fun k => ?_) (Ev.now _)) ?_
        · simp only [impl_SumOfDebts.l0]; rw [if_neg (by omega)]
        · simp [sumD]) 0 (by omega) 0 (by simp)) ?_
    simp
  · refine ev_neg hv ?_
    rw [if_neg hv]
    exact Ev.now _
def netW (x : List Int) (d : D) : List Int :=
  (x.set d.f0.toNat (wrap64 (rd x d.f0 - d.f2))).set d.f1.toNat (wrap64 (rd (x.set d.f0.toNat (wrap64 (rd x d.f0 - d.f2))) d.f1 + d.f2))
def netsW (p : Int) (l : List D) : List Int := l.foldl netW (List.replicate p.toNat 0)
theorem netW_length (x : List Int) (d : D) : (netW x d).length = x.length := by simp [netW]
theorem fold_drop (l : List D) (x : List Int) (i : Nat) (h : i < l.length) : (l.drop i).foldl netW x = (l.drop (i + 1)).foldl netW (netW x l[i]) := by
  rw [List.drop_eq_getElem_cons h]; rfl
theorem netsS_ev (p : Int) (l : List D) (hv : valid p l = true) : Ev (fun k => spec_l02Nets.f k p l) (netsW p l) := by
  obtain ⟨hp, hp2, h60, hd⟩ := valid_bd hv
  unfold spec_l02Nets.f netsW
  refine ev_pos (by omega) (ev_pos (by omega) ?_)
  exact ev_forI (n := l.length) (G := fun k s i => spec_l02Nets.l0 k l s i) (F := fun s i => (l.drop i).foldl netW s) (I := fun s _ => (s.length : Int) = p)
      (fun i hi ih s hI => by
        have hb := hd l[i] (List.getElem_mem hi)
        refine ev_eq (Ev.step (f := fun k => spec_l02Nets.l0 k l (netW s l[i]) ((i : Int) + 1)) (fun k => ?_) (ih (netW s l[i]) (by rw [netW_length]; exact hI))) ?_
        · simp only [spec_l02Nets.l0, Option.bind_some]
          rw [if_pos (by omega), if_pos (by omega), rdD l i hi, if_pos (by omega), if_pos (by omega), if_pos (by omega), if_pos (by omega), wrap_up hi (by omega)]
          rfl
        · rw [fold_drop l s i hi])
      (fun s hI => by
        refine ev_eq (Ev.step (f := fun _ => some s) (fun k => ?_) (Ev.now _)) ?_
        · simp only [spec_l02Nets.l0]; rw [if_neg (by omega)]
        · simp) 0 (by omega) _ (by rw [List.length_replicate]; omega)
theorem netsI_ev (p : Int) (l : List D) (hv : valid p l = true) : Ev (fun k => impl_nets.f k p l) (netsW p l) := by
  obtain ⟨hp, hp2, h60, hd⟩ := valid_bd hv
  unfold impl_nets.f netsW
  refine ev_pos (by omega) (ev_pos (by omega) ?_)
  exact ev_forI (n := l.length) (G := fun k s i => impl_nets.l0 k s l (l.length : Int) i) (F := fun s i => (l.drop i).foldl netW s) (I := fun s _ => (s.length : Int) = p)
      (fun i hi ih s hI => by
        have hb := hd l[i] (List.getElem_mem hi)
        refine ev_eq (Ev.step (f := fun k => impl_nets.l0 k (netW s l[i]) l (l.length : Int) ((i : Int) + 1)) (fun k => ?_) (ih (netW s l[i]) (by rw [netW_length]; exact hI))) ?_
        · simp only [impl_nets.l0, Option.bind_some]
          rw [if_pos (by omega), if_pos (by omega), if_pos (by omega), rdD l i hi, if_pos (by omega), if_pos (by omega), if_pos (by omega), if_pos (by omega), wrap_up hi (by omega)]
          rfl
        · rw [fold_drop l s i hi])
      (fun s hI => by
        refine ev_eq (Ev.step (f := fun _ => some s) (fun k => ?_) (Ev.now _)) ?_
        · simp only [impl_nets.l0]; rw [if_neg (by omega)]
        · simp) 0 (by omega) _ (by rw [List.length_replicate]; omega)
def netsR (p : Int) (l : List D) : List Int × Int := if valid p l = true then (netsW p l, 0) else ([], 1)
theorem netsW_length (p : Int) (l : List D) : (netsW p l).length = p.toNat := by
  unfold netsW
  have : ∀ (l : List D) (x : List Int), (l.foldl netW x).length = x.length := by
    intro l
    induction l with
    | nil => intro x; rfl
    | cons d l ih => intro x; rw [List.foldl_cons, ih, netW_length]
  rw [this, List.length_replicate]
theorem NetsS_ev (p : Int) (l : List D) (hl : l.length ≤ maxLen) : Ev (fun k => spec_NetsOf.f k p l) (netsR p l) := by
  unfold spec_NetsOf.f netsR
  refine Ev.bind (l02Ok_ev p l hl) ?_
  by_cases hv : valid p l = true
  · refine ev_pos hv (Ev.bind (netsS_ev p l hv) ?_)
    rw [if_pos hv]; exact Ev.now _
  · refine ev_neg hv ?_
    rw [if_neg hv]; exact Ev.now _
theorem NetsI_ev (p : Int) (l : List D) (hl : l.length ≤ maxLen) : Ev (fun k => impl_NetsOf.f k p l) (netsR p l) := by
  unfold impl_NetsOf.f netsR
  refine Ev.bind (ValidI_ev p l hl) ?_
  by_cases hv : valid p l = true
  · refine ev_pos hv (Ev.bind (netsI_ev p l hv) ?_)
    rw [if_pos hv]; exact Ev.now _
  · refine ev_neg hv ?_
    rw [if_neg hv]; exact Ev.now _
end Go.Proofs.YtfjmljgbdejghaaDoor.PuSumNetsNets
-- a text of this session, cut down for this claim
namespace Go.Proofs.YtfjmljgbdejghaaDoor.PuTab2Nets
open Go.RowKit Go.Proofs.YtfjmljgbdejghaaDoor.MNets Go.Proofs.YtfjmljgbdejghaaDoorW.PrintWords Go.Proofs.YtfjmljgbdejghaaDoorW.PrintLast Go.Proofs.YtfjmljgbdejghaaDoorW.PrintMore Go.Proofs.YtfjmljgbdejghaaDoor.Evs Go.Proofs.YtfjmljgbdejghaaDoor.PuDebtNets Go.Proofs.YtfjmljgbdejghaaDoor.PuTableNets Go.Proofs.YtfjmljgbdejghaaDoor.PuTableLNets
open Go.Proofs.YtfjmljgbdejghaaDoor.PuSumNetsNets (netsW netW netsW_length netW_length)
set_option linter.unusedVariables false
set_option linter.unusedSimpArgs false
def tabOk (p : Nat) (B : Int) (t : Tb) : Prop := ∀ a b, a < 16 → b < 16 → 0 ≤ tg t a b ∧ tg t a b ≤ B ∧ (0 < tg t a b → a < p ∧ b < p ∧ a ≠ b)
def smallD (p : Nat) (m : Int) (d : D) : Prop := 0 ≤ d.f0 ∧ d.f0 < p ∧ 0 ≤ d.f1 ∧ d.f1 < p ∧ d.f0 ≠ d.f1 ∧ 1 ≤ d.f2 ∧ d.f2 ≤ m
theorem tg_put (t : Tb) (i k : Int) (y : Int) (hi : 0 ≤ i ∧ i < 16) (hk : 0 ≤ k ∧ k < 16) (a b : Nat) (ha : a < 16) (hb : b < 16) : tg (Arr.vst2 16 t i k y) a b = if a = i.toNat ∧ b = k.toNat then y else tg t a b := by
  have e : Arr.vst2 16 t i k y = Arr.vst2 16 t ((i.toNat : Nat) : Int) ((k.toNat : Nat) : Int) y := by
    rw [show ((i.toNat : Nat) : Int) = i by omega, show ((k.toNat : Nat) : Int) = k by omega]
  rw [e, tg_set t _ _ a b _ (by omega) (by omega) hb ha]
theorem add_tg {p : Nat} {B m : Int} {t : Tb} (h : tabOk p B t) (hp : p ≤ 16) (hB : B + m ≤ 1000000000000) (hB0 : 0 ≤ B) (d : D) (hd : smallD p m d) (a b : Nat) (ha : a < 16) (hb : b < 16) :
    tg (addT t d) a b = if a = d.f0.toNat ∧ b = d.f1.toNat then tg t a b + d.f2 else tg t a b := by
  obtain ⟨h0, h1, h2, h3, h4, h5, h6⟩ := hd
  have h7 := h d.f0.toNat d.f1.toNat (by omega) (by omega)
  unfold addT
  rw [tg_put t _ _ _ ⟨h0, by omega⟩ ⟨h2, by omega⟩ a b ha hb, vrd2_n, wrap_id (by omega) (by omega)]
  by_cases hc : a = d.f0.toNat ∧ b = d.f1.toNat
  · rw [if_pos hc, if_pos hc, hc.1, hc.2]
  · rw [if_neg hc, if_neg hc]
theorem add_ok {p : Nat} {B m : Int} {t : Tb} (h : tabOk p B t) (hp : p ≤ 16) (hB : B + m ≤ 1000000000000) (hB0 : 0 ≤ B) (d : D) (hd : smallD p m d) : tabOk p (B + m) (addT t d) := by
  intro a b ha hb
  have h7 := h a b ha hb
  rw [add_tg h hp hB hB0 d hd a b ha hb]
  obtain ⟨h0, h1, h2, h3, h4, h5, h6⟩ := hd
  split
  · next hc => exact ⟨by omega, by omega, fun _ => by omega⟩
  · exact ⟨h7.1, by omega, h7.2.2⟩
def rowS (t : Tb) (q : Nat) : Nat → Int
  | 0 => 0
  | n + 1 => rowS t q n + tg t q n
def colS (t : Tb) (q : Nat) : Nat → Int
  | 0 => 0
  | n + 1 => colS t q n + tg t n q
def netT (t : Tb) (q : Nat) : Int := colS t q 16 - rowS t q 16
theorem rowS_upd {t u : Tb} {q x y : Nat} {c : Int} (h : ∀ b, b < 16 → tg u q b = tg t q b + (if q = x ∧ b = y then c else 0)) : ∀ n, n ≤ 16 → rowS u q n = rowS t q n + (if q = x ∧ y < n then c else 0)
  | 0, _ => by simp [rowS]
  | n + 1, hn => by
    have h1 := rowS_upd h n (by omega)
    have h2 := h n (by omega)
    unfold rowS
    rw [h1, h2]
    by_cases hq : q = x
    · by_cases hy : n = y
      · rw [if_neg (by omega), if_pos ⟨hq, hy⟩, if_pos ⟨hq, by omega⟩]; omega
      · rw [if_neg (c := q = x ∧ n = y) (fun z => hy z.2)]
        by_cases hl : y < n
        · rw [if_pos ⟨hq, hl⟩, if_pos ⟨hq, by omega⟩]; omega
        · rw [if_neg (fun z => hl z.2), if_neg (by omega)]; omega
    · rw [if_neg (fun z => hq z.1), if_neg (fun z => hq z.1), if_neg (fun z => hq z.1)]; omega
theorem colS_upd {t u : Tb} {q x y : Nat} {c : Int} (h : ∀ a, a < 16 → tg u a q = tg t a q + (if a = x ∧ q = y then c else 0)) : ∀ n, n ≤ 16 → colS u q n = colS t q n + (if q = y ∧ x < n then c else 0)
  | 0, _ => by simp [colS]
  | n + 1, hn => by
    have h1 := colS_upd h n (by omega)
    have h2 := h n (by omega)
    unfold colS
    rw [h1, h2]
    by_cases hq : q = y
    · by_cases hy : n = x
      · rw [if_neg (by omega), if_pos ⟨hy, hq⟩, if_pos ⟨hq, by omega⟩]; omega
      · rw [if_neg (c := n = x ∧ q = y) (fun z => hy z.1)]
        by_cases hl : x < n
        · rw [if_pos ⟨hq, hl⟩, if_pos ⟨hq, by omega⟩]; omega
        · rw [if_neg (fun z => hl z.2), if_neg (by omega)]; omega
    · rw [if_neg (fun z => hq z.1), if_neg (fun z => hq z.2), if_neg (fun z => hq z.1)]; omega
theorem netT_upd {t u : Tb} {x y : Nat} {c : Int} (hx : x < 16) (hy : y < 16) (h : ∀ a b, a < 16 → b < 16 → tg u a b = tg t a b + (if a = x ∧ b = y then c else 0)) (q : Nat) (hq : q < 16) : netT u q = netT t q + (if q = y then c else 0) - (if q = x then c else 0) := by
  unfold netT
  rw [rowS_upd (fun b hb => h q b hq hb) 16 (Nat.le_refl _), colS_upd (fun a ha => h a q ha hq) 16 (Nat.le_refl _)]
  by_cases h1 : q = x
  · by_cases h2 : q = y
    · rw [if_pos ⟨h2, hx⟩, if_pos ⟨h1, hy⟩, if_pos h2, if_pos h1]; omega
    · rw [if_neg (fun z => h2 z.1), if_pos ⟨h1, hy⟩, if_neg h2, if_pos h1]; omega
  · by_cases h2 : q = y
    · rw [if_pos ⟨h2, hx⟩, if_neg (fun z => h1 z.1), if_pos h2, if_neg h1]; omega
    · rw [if_neg (fun z => h2 z.1), if_neg (fun z => h1 z.1), if_neg h2, if_neg h1]; omega
theorem rowS_bd {p : Nat} {B : Int} {t : Tb} (h : tabOk p B t) (q : Nat) (hq : q < 16) : ∀ n, n ≤ 16 → 0 ≤ rowS t q n ∧ rowS t q n ≤ n * B
  | 0, _ => by simp [rowS]
  | n + 1, hn => by
    have h1 := rowS_bd h q hq n (by omega)
    have h2 := h q n hq (by omega)
    have e3 : ((n + 1 : Nat) : Int) * B = (n : Int) * B + B := by
      rw [show ((n + 1 : Nat) : Int) = (n : Int) + 1 by omega, Int.add_mul, Int.one_mul]
    unfold rowS; omega
theorem colS_bd {p : Nat} {B : Int} {t : Tb} (h : tabOk p B t) (q : Nat) (hq : q < 16) : ∀ n, n ≤ 16 → 0 ≤ colS t q n ∧ colS t q n ≤ n * B
  | 0, _ => by simp [colS]
  | n + 1, hn => by
    have h1 := colS_bd h q hq n (by omega)
    have h2 := h n q (by omega) hq
    have e3 : ((n + 1 : Nat) : Int) * B = (n : Int) * B + B := by
      rw [show ((n + 1 : Nat) : Int) = (n : Int) + 1 by omega, Int.add_mul, Int.one_mul]
    unfold colS; omega
theorem getD_set (x : List Int) (i k : Nat) (y : Int) (h : i < x.length) : (x.set i y).getD k 0 = if k = i then y else x.getD k 0 := by
  rw [List.getD_eq_getElem?_getD, List.getD_eq_getElem?_getD, List.getElem?_set]
  by_cases e : k = i
  · rw [if_pos e.symm, if_pos h, if_pos e]; rfl
  · rw [if_neg (fun z => e z.symm), if_neg e]
def holds (p : Nat) (t : Tb) (x : List Int) : Prop := x.length = p ∧ ∀ i, i < p → x.getD i 0 = netT t i
theorem nets_step {p : Nat} {B m : Int} {t : Tb} {x : List Int} (h : tabOk p B t) (hp : p ≤ 16) (hB : B + m ≤ 100000000000) (hB0 : 0 ≤ B) (hx : holds p t x) (d : D) (hd : smallD p m d) : holds p (addT t d) (netW x d) := by
  have htg := add_tg h hp (by omega) hB0 d hd
  obtain ⟨h0, h1, h2, h3, h4, h5, h6⟩ := hd
  refine ⟨by rw [netW_length]; exact hx.1, fun i hi => ?_⟩
  have hu := netT_upd (t := t) (u := addT t d) (x := d.f0.toNat) (y := d.f1.toNat) (c := d.f2) (by omega) (by omega) (fun a b ha hb => by
    rw [htg a b ha hb]
    by_cases hc : a = d.f0.toNat ∧ b = d.f1.toNat
    · rw [if_pos hc, if_pos hc]
    · rw [if_neg hc, if_neg hc]; omega) i (by omega)
  have b1 : ∀ j, j < p → -(1600000000000) ≤ x.getD j 0 ∧ x.getD j 0 ≤ 1600000000000 := by
    intro j hj
    have r1 := rowS_bd h j (by omega) 16 (Nat.le_refl _)
    have r2 := colS_bd h j (by omega) 16 (Nat.le_refl _)
    have r3 := hx.2 j hj
    unfold netT at r3
    omega
  have e0 : rd x d.f0 = x.getD d.f0.toNat 0 := rfl
  have b0 := b1 d.f0.toNat (by omega)
  have bb1 := b1 d.f1.toNat (by omega)
  have e1 : rd (x.set d.f0.toNat (wrap64 (rd x d.f0 - d.f2))) d.f1 = x.getD d.f1.toNat 0 := by
    show (x.set d.f0.toNat _).getD d.f1.toNat 0 = _
    rw [getD_set x _ _ _ (by rw [hx.1]; omega), if_neg (by omega)]
  unfold netW
  rw [e1, e0, getD_set _ _ _ _ (by rw [List.length_set, hx.1]; omega), getD_set x _ _ _ (by rw [hx.1]; omega), wrap_id (x := x.getD d.f0.toNat 0 - d.f2) (by omega) (by omega), wrap_id (by omega) (by omega)]
  by_cases c1 : i = d.f1.toNat
  · have c0 : ¬ i = d.f0.toNat := by omega
    rw [if_pos c1, if_neg c0] at hu
    rw [if_pos c1]
    have h7 := hx.2 i hi
    rw [c1] at h7 hu ⊢
    omega
  · rw [if_neg c1] at hu ⊢
    by_cases c0 : i = d.f0.toNat
    · rw [if_pos c0] at hu ⊢
      have h7 := hx.2 i hi
      rw [c0] at h7 hu ⊢
      omega
    · rw [if_neg c0] at hu ⊢
      have h7 := hx.2 i hi
      omega
theorem fold_both {p : Nat} {m : Int} (hp : p ≤ 16) (hm : 0 ≤ m) : ∀ (l : List D) (t : Tb) (x : List Int) (B : Int), tabOk p B t → 0 ≤ B → B + l.length * m ≤ 100000000000 → holds p t x → (∀ d ∈ l, smallD p m d) → tabOk p (B + l.length * m) (l.foldl addT t) ∧ holds p (l.foldl addT t) (l.foldl netW x)
  | [], t, x, B, h, _, _, hx, _ => ⟨by simpa using h, hx⟩
  | d :: l, t, x, B, h, hB0, hB, hx, hd => by
    have hd0 := hd d (List.mem_cons_self ..)
    have e3 : ((l.length + 1 : Nat) : Int) * m = (l.length : Int) * m + m := by
      rw [show ((l.length + 1 : Nat) : Int) = (l.length : Int) + 1 by omega, Int.add_mul, Int.one_mul]
    rw [List.length_cons, e3] at hB ⊢
    have hl0 : 0 ≤ (l.length : Int) * m := Int.mul_nonneg (by omega) hm
    have := fold_both hp hm l (addT t d) (netW x d) (B + m) (add_ok h hp (by omega) hB0 d hd0) (by omega) (by omega) (nets_step h hp (by omega) hB0 hx d hd0) (fun z hz => hd z (List.mem_cons_of_mem _ hz))
    rw [show B + ((l.length : Int) * m + m) = B + m + (l.length : Int) * m by omega]
    exact this
theorem zero_ok (p : Nat) : tabOk p 0 zeroT := fun a b _ _ => by rw [tg_zero]; exact ⟨by omega, by omega, fun h => by omega⟩
theorem rowS_zero (q : Nat) : ∀ n, rowS zeroT q n = 0
  | 0 => rfl
  | n + 1 => by unfold rowS; rw [rowS_zero q n, tg_zero]; rfl
theorem colS_zero (q : Nat) : ∀ n, colS zeroT q n = 0
  | 0 => rfl
  | n + 1 => by unfold colS; rw [colS_zero q n, tg_zero]; rfl
theorem zero_holds (p : Nat) : holds p zeroT (List.replicate p 0) := ⟨by simp, fun i hi => by
  unfold netT; rw [rowS_zero, colS_zero, List.getD_eq_getElem?_getD, List.getElem?_replicate, if_pos hi]; rfl⟩
theorem sum_both {p : Int} {l : List D} {m : Int} (hp0 : 0 ≤ p) (hp : p ≤ 16) (hm : 0 ≤ m) (hl : l.length * m ≤ 100000000000) (hd : ∀ d ∈ l, smallD p.toNat m d) : tabOk p.toNat (l.length * m) (sumT l) ∧ holds p.toNat (sumT l) (netsW p l) := by
  have := fold_both (p := p.toNat) (by omega) hm l zeroT (List.replicate p.toNat 0) 0 (zero_ok _) (by omega) (by omega) (zero_holds _) hd
  rw [Int.zero_add] at this
  exact this
theorem nets_eq {p : Nat} {t u : Tb} {x y : List Int} (hx : holds p t x) (hy : holds p u y) (h : ∀ i, i < p → netT t i = netT u i) : x = y := by
  refine List.ext_getElem (by rw [hx.1, hy.1]) (fun i h1 h2 => ?_)
  have e1 := hx.2 i (by rw [← hx.1]; exact h1)
  have e2 := hy.2 i (by rw [← hy.1]; exact h2)
  rw [getD_lt x 0 i h1] at e1
  rw [getD_lt y 0 i h2] at e2
  rw [e1, e2, h i (by rw [← hx.1]; exact h1)]
theorem tq_tg (t : Tb) (a b : Nat) (hb : b < 16) : tg t a b = tq t (16 * a + b) := (tq_at t a b hb).symm
theorem cells_sum {p : Nat} {B : Int} {t : Tb} (h : tabOk p B t) (hB : B ≤ 100000000000) : ∀ (d q : Nat) (u : Tb), q + d = 256 → (∀ j, j < q → tq u j = tq t j) → (∀ j, q ≤ j → j < 256 → tq u j = 0) → (cellsFrom t q).foldl addT u = t
  | 0, q, u, hq, h1, h2 => by
    rw [show q = 256 by omega, cells_end]
    refine tg_ext _ _ (fun i k hi hk => ?_)
    rw [tq_tg _ i k hk, tq_tg t i k hk]
    exact h1 _ (by omega)
  | d + 1, q, u, hq, h1, h2 => by
    have hlt : q < 256 := by omega
    have ht := h (q / 16) (q % 16) (by omega) (by omega)
    have et : tg t (q / 16) (q % 16) = tq t q := rfl
    rw [cells_step t q hlt]
    by_cases h0 : 0 < tq t q
    · rw [if_pos h0, List.foldl_cons]
      have hu : ∀ j, j < 256 → tq (addT u (dq t q)) j = if j = q then tq t q else tq u j := by
        intro j hj
        have e1 : addT u (dq t q) = Arr.vst2 16 u ((q / 16 : Nat) : Int) ((q % 16 : Nat) : Int) (wrap64 (tg u (q / 16) (q % 16) + tq t q)) := by
          unfold addT dq
          rw [vrd2_nn]
        have e2 : tg u (q / 16) (q % 16) = 0 := h2 q (Nat.le_refl _) hlt
        rw [e1, e2, Int.zero_add, wrap_id (by omega) (by omega)]
        show tg _ (j / 16) (j % 16) = _
        rw [tg_set _ _ _ _ _ _ (by omega) (by omega) (by omega) (by omega)]
        by_cases e : j = q
        · rw [if_pos e, if_pos ⟨by omega, by omega⟩]
        · rw [if_neg e, if_neg (by omega)]; rfl
      refine cells_sum h hB d (q + 1) _ (by omega) (fun j hj => ?_) (fun j hj hj2 => ?_)
      · rw [hu j (by omega)]
        by_cases e : j = q
        · rw [if_pos e, e]
        · rw [if_neg e]; exact h1 j (by omega)
      · rw [hu j hj2, if_neg (by omega)]; exact h2 j (by omega) hj2
    · rw [if_neg h0]
      refine cells_sum h hB d (q + 1) u (by omega) (fun j hj => ?_) (fun j hj hj2 => h2 j (by omega) hj2)
      by_cases e : j = q
      · rw [e, h2 q (Nat.le_refl _) hlt]; omega
      · exact h1 j (by omega)
theorem sum_cells {p : Nat} {B : Int} {t : Tb} (h : tabOk p B t) (hB : B ≤ 100000000000) : sumT (cellsFrom t 0) = t :=
  cells_sum h hB 256 0 zeroT (by omega) (fun j hj => by omega) (fun j _ _ => tg_zero _ _)
theorem cells_mem {p : Nat} {B : Int} {t : Tb} (h : tabOk p B t) {d : D} (hd : d ∈ cellsFrom t 0) : smallD p B d := by
  unfold cellsFrom at hd
  obtain ⟨q, hq, rfl⟩ := List.mem_map.1 hd
  obtain ⟨hq1, hq2⟩ := List.mem_filter.1 hq
  have h0 := of_decide_eq_true hq2
  have hq3 := List.mem_range'_1.1 hq1
  have ht := h (q / 16) (q % 16) (by omega) (by omega)
  have et : tg t (q / 16) (q % 16) = tq t q := rfl
  have h3 := ht.2.2 (by omega)
  unfold smallD dq
  refine ⟨by simp only; omega, by simp only; omega, by simp only; omega, by simp only; omega, by simp only; omega, by simp only; omega, by simp only; omega⟩
set_option maxRecDepth 100000 in
theorem few_cells {p : Nat} {B : Int} {t : Tb} (h : tabOk p B t) (hp : p ≤ 6) : (cellsFrom t 0).length ≤ 36 := by
  unfold cellsFrom
  rw [List.length_map, ← List.countP_eq_length_filter]
  refine Nat.le_trans (List.countP_mono_left (q := fun x => decide (x / 16 < 6 ∧ x % 16 < 6)) (fun q hq h0 => decide_eq_true ?_)) (by decide)
  have h1 := of_decide_eq_true h0
  have hq3 := List.mem_range'_1.1 hq
  have ht := h (q / 16) (q % 16) (by omega) (by omega)
  have et : tg t (q / 16) (q % 16) = tq t q := rfl
  have h3 := ht.2.2 (by omega)
  omega
theorem list_small {p : Nat} {B : Int} {t : Tb} (h : tabOk p B t) (hp : p ≤ 6) (hB : B ≤ 100000000) : listR t = (cellsFrom t 0, 0) := by
  have hf := few_cells h hp
  unfold listR goL
  rw [List.nil_append, if_neg, if_neg (by omega)]
  intro z
  unfold overFrom at z
  obtain ⟨x, hx, hx2⟩ := List.any_eq_true.1 z
  have h2 := of_decide_eq_true hx2
  have hq3 := List.mem_range'_1.1 hx
  have ht := h (x / 16) (x % 16) (by omega) (by omega)
  have et : tg t (x / 16) (x % 16) = tq t x := rfl
  omega
theorem cells_valid {p : Int} {B : Int} {t : Tb} (h : tabOk p.toNat B t) (hp1 : 1 ≤ p) (hp : p ≤ 6) (hB : B ≤ 100000000) : valid p (cellsFrom t 0) = true := by
  have hf := few_cells h (by omega)
  unfold valid
  rw [Bool.and_eq_true, decide_eq_true_eq, List.all_eq_true]
  refine ⟨⟨by omega, by omega, by omega⟩, fun d hm => okD_true ?_⟩
  have := cells_mem h hm
  unfold smallD at this
  omega
theorem cells_nets {p : Int} {B : Int} {t : Tb} (h : tabOk p.toNat B t) (hp1 : 1 ≤ p) (hp : p ≤ 6) (hB0 : 0 ≤ B) (hB : B ≤ 100000000) : holds p.toNat t (netsW p (cellsFrom t 0)) := by
  have hf := few_cells h (by omega)
  have hl : ((cellsFrom t 0).length : Int) * B ≤ 36 * B := Int.mul_le_mul_of_nonneg_right (by omega) hB0
  have := (sum_both (p := p) (l := cellsFrom t 0) (m := B) (by omega) (by omega) hB0 (by omega) (fun d hd => cells_mem h hd)).2
  rw [sum_cells h (by omega)] at this
  exact this
end Go.Proofs.YtfjmljgbdejghaaDoor.PuTab2Nets
-- a text of this session, cut down for this claim
namespace Go.Proofs.YtfjmljgbdejghaaDoor.PuTotNets
open Go.RowKit Go.Proofs.YtfjmljgbdejghaaDoor.MNets Go.Proofs.YtfjmljgbdejghaaDoorW.PrintWords Go.Proofs.YtfjmljgbdejghaaDoorW.PrintLast Go.Proofs.YtfjmljgbdejghaaDoor.Evs Go.Proofs.YtfjmljgbdejghaaDoor.PuDebtNets Go.Proofs.YtfjmljgbdejghaaDoor.PuTableNets Go.Proofs.YtfjmljgbdejghaaDoor.PuTableLNets Go.Proofs.YtfjmljgbdejghaaDoor.PuTab2Nets
open Go.Proofs.YtfjmljgbdejghaaDoor.PuSumNetsNets (sumD)
set_option linter.unusedVariables false
set_option linter.unusedSimpArgs false
def tot (t : Tb) : Int := t.toList.sum
theorem sum_set : ∀ (l : List Int) (q : Nat) (y : Int), q < l.length → (l.set q y).sum = l.sum - l.getD q 0 + y
  | [], q, y, h => by simp at h
  | a :: l, 0, y, _ => by simp; omega
  | a :: l, q + 1, y, h => by
    have := sum_set l q y (by simpa using h)
    simp only [List.set_cons_succ, List.sum_cons, List.getD_cons_succ]
    omega
theorem tot_set (t : Tb) (a b : Nat) (ha : a < 16) (hb : b < 16) (y : Int) : tot (Arr.vst2 16 t (a : Int) (b : Int) y) = tot t - tg t a b + y := by
  unfold tot tg Arr.vst2
  rw [Vector.toList_setIfInBounds, Int.toNat_natCast, Int.toNat_natCast]
  exact sum_set _ _ _ (by simp; omega)
theorem tot_add {p : Nat} {B m : Int} {t : Tb} (h : tabOk p B t) (hp : p ≤ 16) (hB : B + m ≤ 1000000000000) (hB0 : 0 ≤ B) (d : D) (hd : smallD p m d) : tot (addT t d) = tot t + d.f2 := by
  obtain ⟨h0, h1, h2, h3, h4, h5, h6⟩ := hd
  have h7 := h d.f0.toNat d.f1.toNat (by omega) (by omega)
  have e : addT t d = Arr.vst2 16 t ((d.f0.toNat : Nat) : Int) ((d.f1.toNat : Nat) : Int) (wrap64 (tg t d.f0.toNat d.f1.toNat + d.f2)) := by
    unfold addT
    rw [vrd2_n, show ((d.f0.toNat : Nat) : Int) = d.f0 by omega, show ((d.f1.toNat : Nat) : Int) = d.f1 by omega]
  rw [e, tot_set t _ _ (by omega) (by omega), wrap_id (by omega) (by omega)]; omega
theorem tot_fold {p : Nat} {m : Int} (hp : p ≤ 16) (hm : 0 ≤ m) : ∀ (l : List D) (t : Tb) (B : Int), tabOk p B t → 0 ≤ B → B + l.length * m ≤ 100000000000 → (∀ d ∈ l, smallD p m d) → tot (l.foldl addT t) = tot t + sumD l
  | [], t, B, _, _, _, _ => by simp [sumD]
  | d :: l, t, B, h, hB0, hB, hd => by
    have hd0 := hd d (List.mem_cons_self ..)
    have e3 : ((l.length + 1 : Nat) : Int) * m = (l.length : Int) * m + m := by
      rw [show ((l.length + 1 : Nat) : Int) = (l.length : Int) + 1 by omega, Int.add_mul, Int.one_mul]
    rw [List.length_cons, e3] at hB
    have hl0 : 0 ≤ (l.length : Int) * m := Int.mul_nonneg (by omega) hm
    rw [List.foldl_cons, tot_fold hp hm l (addT t d) (B + m) (add_ok h hp (by omega) hB0 d hd0) (by omega) (by omega) (fun z hz => hd z (List.mem_cons_of_mem _ hz)), tot_add h hp (by omega) hB0 d hd0]
    have : sumD (d :: l) = d.f2 + sumD l := rfl
    omega
theorem tot_zero : tot zeroT = 0 := by
  unfold tot zeroT
  rw [Vector.toList_replicate]
  have : ∀ n, (List.replicate n (0 : Int)).sum = 0 := by
    intro n
    induction n with
    | zero => rfl
    | succ n ih => rw [List.replicate_succ, List.sum_cons, ih]; rfl
  exact this 256
theorem tot_sum {p : Nat} {m : Int} {l : List D} (hp : p ≤ 16) (hm : 0 ≤ m) (hl : l.length * m ≤ 100000000000) (hd : ∀ d ∈ l, smallD p m d) : sumD l = tot (sumT l) := by
  have := tot_fold hp hm l zeroT 0 (zero_ok p) (by omega) (by omega) hd
  unfold sumT
  rw [this, tot_zero]; omega
theorem tot_cells {p : Nat} {B : Int} {t : Tb} (h : tabOk p B t) (hp : p ≤ 6) (hB0 : 0 ≤ B) (hB : B ≤ 100000000) : sumD (cellsFrom t 0) = tot t := by
  have hf := few_cells h hp
  have hl : ((cellsFrom t 0).length : Int) * B ≤ 36 * B := Int.mul_le_mul_of_nonneg_right (by omega) hB0
  rw [tot_sum (by omega) hB0 (by omega) (fun d hd => cells_mem h hd), sum_cells h (by omega)]
end Go.Proofs.YtfjmljgbdejghaaDoor.PuTotNets
-- a text of this session, cut down for this claim
namespace Go.Proofs.YtfjmljgbdejghaaDoor.PuPayNets
open Go.RowKit Go.Proofs.YtfjmljgbdejghaaDoor.MNets Go.Proofs.YtfjmljgbdejghaaDoorW.PrintWords Go.Proofs.YtfjmljgbdejghaaDoorW.PrintLast Go.Proofs.YtfjmljgbdejghaaDoorW.PrintMore Go.Proofs.YtfjmljgbdejghaaDoor.Evs Go.Proofs.YtfjmljgbdejghaaDoor.PuDebtNets Go.Proofs.YtfjmljgbdejghaaDoor.PuTableNets Go.Proofs.YtfjmljgbdejghaaDoor.PuTableLNets
set_option linter.unusedVariables false
set_option linter.unusedSimpArgs false
def offT (t : Tb) (i k : Nat) : Tb :=
  let m := mn (tg t i k) (tg t k i)
  Arr.vst2 16 (Arr.vst2 16 t (i : Int) (k : Int) (wrap64 (tg t i k - m))) (k : Int) (i : Int) (wrap64 (tg (Arr.vst2 16 t (i : Int) (k : Int) (wrap64 (tg t i k - m))) k i - m))
def offRow (i : Nat) : Nat → Nat → Tb → Tb
  | 0, _, t => t
  | n + 1, k, t => offRow i n (k + 1) (offT t i k)
def offAll : Nat → Nat → Tb → Tb
  | 0, _, t => t
  | n + 1, i, t => offAll n (i + 1) (offRow i i 0 t)
theorem offRow_step (i k : Nat) (t : Tb) (h : k < i) : offRow i (i - k) k t = offRow i (i - (k + 1)) (k + 1) (offT t i k) := by
  rw [show i - k = (i - (k + 1)) + 1 by omega]; rfl
theorem offAll_step (i : Nat) (t : Tb) (h : i < 16) : offAll (16 - i) i t = offAll (16 - (i + 1)) (i + 1) (offRow i i 0 t) := by
  rw [show 16 - i = (16 - (i + 1)) + 1 by omega]; rfl
theorem min_mn (a b : Int) : spec_l00Min.f a b = some (mn a b) := by
  unfold spec_l00Min.f mn
  by_cases h : a < b
  · rw [if_pos h]; (repeat' split) <;> first | rfl | (congr 1; omega)
  · rw [if_neg h]; (repeat' split) <;> first | rfl | (congr 1; omega)
def offR (p : Int) (l : List D) : List D × Int := if (joinR p l).2 = 0 then listR (offAll 16 0 (sumT l)) else ([], (joinR p l).2)
theorem offS_loop (t : Tb) : Ev (fun k => spec_OffsetPairs.l0 k 0 t) (listR (offAll 16 0 t)) := by
  refine ev_for (n := 16) (G := fun k (t : Tb) i => spec_OffsetPairs.l0 k i t) (F := fun t i => listR (offAll (16 - i) i t)) (fun i hi ih t => ?_) (fun t => ?_) 0 (by omega) t
  · rw [offAll_step i t hi]
    refine Ev.step (f := fun k => spec_OffsetPairs.l1 k (i : Int) 0 t) (fun k => by simp only [spec_OffsetPairs.l0]; rw [if_pos (by omega)]) ?_
    refine ev_for (n := i) (G := fun k (t : Tb) q => spec_OffsetPairs.l1 k (i : Int) q t) (F := fun t q => listR (offAll (16 - (i + 1)) (i + 1) (offRow i (i - q) q t))) (fun q hq ih2 t => ?_) (fun t => ?_) 0 (by omega) t
    · rw [offRow_step i q t hq]
      refine Ev.step (fun k => ?_) (ih2 (offT t i q))
      simp only [spec_OffsetPairs.l1]
      rw [if_pos (by omega), if_pos (by omega), if_pos (by omega), if_pos (by omega), if_pos (by omega), vrd2_nn, vrd2_nn, min_mn, wrap_up hq (by omega)]
      simp only [Option.bind_some]
      rw [vrd2_nn]
      rfl
    · rw [Nat.sub_self]
      refine Ev.step (fun k => ?_) (ih t)
      simp only [spec_OffsetPairs.l1]
      rw [if_neg (by omega), wrap_up hi (by omega)]
  · refine Ev.step (f := fun k => (spec_l02List.f k t).bind fun b => some (b.1, b.2.1)) (fun k => ?_) (Ev.bind (listS_ev t) (Ev.now _))
    simp only [spec_OffsetPairs.l0]
    rw [if_neg (by omega)]
theorem offI_loop (t : Tb) : Ev (fun k => impl_OffsetPairs.l0 k 0 t) (listR (offAll 16 0 t)) := by
  refine ev_for (n := 16) (G := fun k (t : Tb) i => impl_OffsetPairs.l0 k i t) (F := fun t i => listR (offAll (16 - i) i t)) (fun i hi ih t => ?_) (fun t => ?_) 0 (by omega) t
  · rw [offAll_step i t hi]
    refine Ev.step (f := fun k => impl_OffsetPairs.l1 k (i : Int) (i : Int) (i : Int) 0 t) (fun k => by simp only [impl_OffsetPairs.l0]; rw [if_pos (by omega)]) ?_
    refine ev_for (n := i) (G := fun k (t : Tb) q => impl_OffsetPairs.l1 k (i : Int) (i : Int) (i : Int) q t) (F := fun t q => listR (offAll (16 - (i + 1)) (i + 1) (offRow i (i - q) q t))) (fun q hq ih2 t => ?_) (fun t => ?_) 0 (by omega) t
    · rw [offRow_step i q t hq]
      refine Ev.step (fun k => ?_) (ih2 (offT t i q))
      simp only [impl_OffsetPairs.l1]
      rw [if_pos (by omega), if_pos (by omega), if_pos (by omega), if_pos (by omega), if_pos (by omega), vrd2_nn, vrd2_nn, wrap_up hq (by omega)]
      simp only [Option.bind_some]
      rw [vrd2_nn]
      rfl
    · rw [Nat.sub_self]
      refine Ev.step (fun k => ?_) (ih t)
      simp only [impl_OffsetPairs.l1]
      rw [if_neg (by omega), wrap_up hi (by omega)]
  · refine Ev.step (f := fun k => (impl_sums_debts.f k t).bind fun b => some (b.1, b.2)) (fun k => ?_) (Ev.bind (listI_ev t) (Ev.now _))
    simp only [impl_OffsetPairs.l0]
    rw [if_neg (by omega)]
theorem OffS_ev (p : Int) (l : List D) (hl : l.length ≤ maxLen) : Ev (fun k => spec_OffsetPairs.f k p l) (offR p l) := by
  unfold spec_OffsetPairs.f offR
  refine Ev.bind (l02Ok_ev p l hl) ?_
  by_cases hv : valid p l = true
  · have e : joinR p l = listR (sumT l) := if_pos hv
    rw [e]
    refine ev_pos hv (Ev.bind (sumsS_ev p l hv) (Ev.bind (listS_ev _) ?_))
    by_cases h : (listR (sumT l)).2 = 0
    · exact ev_ifp h (ev_pos h (offS_loop _))
    · exact ev_ifn h (ev_neg h (Ev.now _))
  · have e : joinR p l = ([], 1) := if_neg hv
    rw [e]
    exact ev_ifn (by decide) (ev_neg hv (Ev.now _))
theorem OffI_ev (p : Int) (l : List D) (hl : l.length ≤ maxLen) : Ev (fun k => impl_OffsetPairs.f k p l) (offR p l) := by
  unfold impl_OffsetPairs.f offR
  refine Ev.bind (JoinI_ev p l hl) ?_
  by_cases h : (joinR p l).2 = 0
  · have hv : valid p l = true := by
      by_cases hv : valid p l = true
      · exact hv
      · have e : joinR p l = ([], 1) := if_neg hv
        rw [e] at h; cases h
    exact ev_ifp h (ev_pos h (Ev.bind (sumsI_ev p l hv) (offI_loop _)))
  · exact ev_ifn h (ev_neg h (Ev.now _))
end Go.Proofs.YtfjmljgbdejghaaDoor.PuPayNets
-- a text of this session, cut down for this claim
namespace Go.Proofs.YtfjmljgbdejghaaDoor.PuOffNets
open Go.RowKit Go.Proofs.YtfjmljgbdejghaaDoor.MNets Go.Proofs.YtfjmljgbdejghaaDoorW.PrintWords Go.Proofs.YtfjmljgbdejghaaDoorW.PrintLast Go.Proofs.YtfjmljgbdejghaaDoorW.PrintMore Go.Proofs.YtfjmljgbdejghaaDoor.Evs Go.Proofs.YtfjmljgbdejghaaDoor.PuDebtNets Go.Proofs.YtfjmljgbdejghaaDoor.PuTableNets Go.Proofs.YtfjmljgbdejghaaDoor.PuTableLNets Go.Proofs.YtfjmljgbdejghaaDoor.PuTab2Nets Go.Proofs.YtfjmljgbdejghaaDoor.PuPayNets
set_option linter.unusedVariables false
set_option linter.unusedSimpArgs false
def Zp (t : Tb) (a b : Nat) : Prop := tg t a b = 0 ∨ tg t b a = 0
theorem mn_le (a b : Int) (ha : 0 ≤ a) (hb : 0 ≤ b) : 0 ≤ mn a b ∧ mn a b ≤ a ∧ mn a b ≤ b ∧ (mn a b = a ∨ mn a b = b) := by
  have e : mn a b = if b < a then b else a := rfl
  rw [e]
  by_cases h : b < a
  · rw [if_pos h]; omega
  · rw [if_neg h]; omega
theorem offT_tg {p : Nat} {B : Int} {t : Tb} (h : tabOk p B t) (hB : B ≤ 1000000000000) (i k : Nat) (hi : i < 16) (hk : k < 16) (hik : i ≠ k) (a b : Nat) (ha : a < 16) (hb : b < 16) :
    tg (offT t i k) a b = tg t a b - (if (a = i ∧ b = k) ∨ (a = k ∧ b = i) then mn (tg t i k) (tg t k i) else 0) := by
  have h1 := h i k hi hk
  have h2 := h k i hk hi
  obtain ⟨m0, m1, m2, _⟩ := mn_le _ _ h1.1 h2.1
  unfold offT
  dsimp only
  rw [tg_set _ k i a b _ hi hk hb ha, tg_set t i k k i _ hk hi hi hk, tg_set t i k a b _ hk hi hb ha]
  have e : ¬ (k = i ∧ i = k) := fun z => hik z.2
  rw [if_neg e, wrap_id (x := tg t i k - mn (tg t i k) (tg t k i)) (by omega) (by omega), wrap_id (x := tg t k i - mn (tg t i k) (tg t k i)) (by omega) (by omega)]
  by_cases c1 : a = k ∧ b = i
  · rw [if_pos c1, if_pos (.inr c1), c1.1, c1.2]
  · rw [if_neg c1]
    by_cases c2 : a = i ∧ b = k
    · rw [if_pos c2, if_pos (.inl c2), c2.1, c2.2]
    · rw [if_neg c2, if_neg (fun z => z.elim c2 c1)]; omega
theorem offT_ok {p : Nat} {B : Int} {t : Tb} (h : tabOk p B t) (hB : B ≤ 1000000000000) (i k : Nat) (hi : i < 16) (hk : k < 16) (hik : i ≠ k) :
    tabOk p B (offT t i k) ∧ (∀ q, q < 16 → netT (offT t i k) q = netT t q) ∧ (∀ a b, a < 16 → b < 16 → Zp t a b → Zp (offT t i k) a b) ∧ Zp (offT t i k) i k := by
  have h1 := h i k hi hk
  have h2 := h k i hk hi
  obtain ⟨m0, m1, m2, m3⟩ := mn_le _ _ h1.1 h2.1
  have key := offT_tg h hB i k hi hk hik
  have low : ∀ a b, a < 16 → b < 16 → 0 ≤ tg (offT t i k) a b ∧ tg (offT t i k) a b ≤ tg t a b := by
    intro a b ha hb
    have h3 := h a b ha hb
    rw [key a b ha hb]
    by_cases c : (a = i ∧ b = k) ∨ (a = k ∧ b = i)
    · rw [if_pos c]
      rcases c with ⟨rfl, rfl⟩ | ⟨rfl, rfl⟩ <;> omega
    · rw [if_neg c]; omega
  refine ⟨fun a b ha hb => ?_, fun q hq => ?_, fun a b ha hb hz => ?_, ?_⟩
  · have h3 := h a b ha hb
    have h4 := low a b ha hb
    exact ⟨h4.1, by omega, fun hp => h3.2.2 (by omega)⟩
  · obtain ⟨u, hu⟩ : ∃ u : Tb, u = Arr.vst2 16 t (i : Int) (k : Int) (tg t i k + -(mn (tg t i k) (tg t k i))) := ⟨_, rfl⟩
    have hu1 : ∀ a b, a < 16 → b < 16 → tg u a b = tg t a b + (if a = i ∧ b = k then -(mn (tg t i k) (tg t k i)) else 0) := by
      intro a b ha hb
      rw [hu, tg_set t i k a b _ hk hi hb ha]
      by_cases c : a = i ∧ b = k
      · rw [if_pos c, if_pos c, c.1, c.2]
      · rw [if_neg c, if_neg c]; omega
    have hu2 : ∀ a b, a < 16 → b < 16 → tg (offT t i k) a b = tg u a b + (if a = k ∧ b = i then -(mn (tg t i k) (tg t k i)) else 0) := by
      intro a b ha hb
      rw [key a b ha hb, hu1 a b ha hb]
      by_cases c1 : a = i ∧ b = k
      · rw [if_pos (.inl c1), if_pos c1, if_neg (fun z => hik (c1.1.symm.trans z.1))]; omega
      · by_cases c2 : a = k ∧ b = i
        · rw [if_pos (.inr c2), if_neg c1, if_pos c2]; omega
        · rw [if_neg (fun z => z.elim c1 c2), if_neg c1, if_neg c2]; omega
    have n1 := netT_upd hi hk hu1 q hq
    have n2 := netT_upd hk hi hu2 q hq
    rw [n2, n1]
    by_cases d1 : q = i
    · by_cases d2 : q = k
      · exact absurd (d1.symm.trans d2) hik
      · rw [if_pos d1, if_neg d2]; omega
    · by_cases d2 : q = k
      · rw [if_neg d1, if_pos d2]; omega
      · rw [if_neg d1, if_neg d2]; omega
  · have l1 := low a b ha hb
    have l2 := low b a hb ha
    unfold Zp at hz ⊢
    omega
  · have e1 := key i k hi hk
    have e2 := key k i hk hi
    rw [if_pos (.inl ⟨rfl, rfl⟩)] at e1
    rw [if_pos (.inr ⟨rfl, rfl⟩)] at e2
    unfold Zp
    omega
theorem offRow_ok {p : Nat} {B : Int} (hB : B ≤ 1000000000000) (i : Nat) (hi : i < 16) : ∀ (n k : Nat) (t : Tb), k + n ≤ i → tabOk p B t →
    tabOk p B (offRow i n k t) ∧ (∀ q, q < 16 → netT (offRow i n k t) q = netT t q) ∧ (∀ a b, a < 16 → b < 16 → Zp t a b → Zp (offRow i n k t) a b) ∧ (∀ j, k ≤ j → j < k + n → Zp (offRow i n k t) i j)
  | 0, k, t, _, h => ⟨h, fun _ _ => rfl, fun _ _ _ _ hz => hz, fun j h1 h2 => by omega⟩
  | n + 1, k, t, hk, h => by
    obtain ⟨o1, o2, o3, o4⟩ := offT_ok h hB i k hi (by omega) (by omega)
    obtain ⟨r1, r2, r3, r4⟩ := offRow_ok hB i hi n (k + 1) (offT t i k) (by omega) o1
    refine ⟨r1, fun q hq => (r2 q hq).trans (o2 q hq), fun a b ha hb hz => r3 a b ha hb (o3 a b ha hb hz), fun j h1 h2 => ?_⟩
    by_cases e : j = k
    · rw [e]; exact r3 i k hi (by omega) o4
    · exact r4 j (by omega) (by omega)
theorem offAll_ok {p : Nat} {B : Int} (hB : B ≤ 1000000000000) : ∀ (n i : Nat) (t : Tb), i + n ≤ 16 → tabOk p B t →
    tabOk p B (offAll n i t) ∧ (∀ q, q < 16 → netT (offAll n i t) q = netT t q) ∧ (∀ a b, a < 16 → b < 16 → Zp t a b → Zp (offAll n i t) a b) ∧ (∀ a j, i ≤ a → a < i + n → j < a → Zp (offAll n i t) a j)
  | 0, i, t, _, h => ⟨h, fun _ _ => rfl, fun _ _ _ _ hz => hz, fun a j h1 h2 => by omega⟩
  | n + 1, i, t, hi, h => by
    obtain ⟨o1, o2, o3, o4⟩ := offRow_ok hB i (by omega) i 0 t (by omega) h
    obtain ⟨r1, r2, r3, r4⟩ := offAll_ok hB n (i + 1) (offRow i i 0 t) (by omega) o1
    refine ⟨r1, fun q hq => (r2 q hq).trans (o2 q hq), fun a b ha hb hz => r3 a b ha hb (o3 a b ha hb hz), fun a j h1 h2 h3 => ?_⟩
    by_cases e : a = i
    · rw [e]
      exact r3 i j (by omega) (by omega) (o4 j (by omega) (by omega))
    · exact r4 a j (by omega) (by omega) h3
theorem off_zero {p : Nat} {B : Int} {t : Tb} (h : tabOk p B t) (hB : B ≤ 1000000000000) (a b : Nat) (ha : a < 16) (hb : b < 16) (hp : 0 < tg (offAll 16 0 t) a b) : tg (offAll 16 0 t) b a = 0 := by
  obtain ⟨r1, _, _, r4⟩ := offAll_ok hB 16 0 t (by omega) h
  have hne := (r1 a b ha hb).2.2 hp
  rcases Nat.lt_or_gt_of_ne hne.2.2 with hl | hl
  · have := r4 b a (by omega) (by omega) hl
    unfold Zp at this
    omega
  · have := r4 a b (by omega) (by omega) hl
    unfold Zp at this
    omega
end Go.Proofs.YtfjmljgbdejghaaDoor.PuOffNets
-- a text of this session, cut down for this claim
namespace Go.Proofs.YtfjmljgbdejghaaDoor.PuDrawNets
open Go.RowKit Go.Proofs.YtfjmljgbdejghaaDoor.MNets Go.Proofs.YtfjmljgbdejghaaDoorW.PrintWords Go.Proofs.YtfjmljgbdejghaaDoorW.PrintLast Go.Proofs.YtfjmljgbdejghaaDoor.Evs Go.Proofs.YtfjmljgbdejghaaDoor.PuDebtNets
set_option linter.unusedVariables false
set_option linter.unusedSimpArgs false
def byteL (c : List Int) : Prop := c.length ≤ 100000 ∧ ∀ x ∈ c, 0 ≤ x ∧ x ≤ 255
theorem rd_byte {c : List Int} (h : byteL c) (i : Int) : 0 ≤ rd c i ∧ rd c i ≤ 255 := by
  show 0 ≤ c.getD i.toNat 0 ∧ c.getD i.toNat 0 ≤ 255
  by_cases hi : i.toNat < c.length
  · rw [getD_lt c 0 _ hi]; exact h.2 _ (List.getElem_mem hi)
  · rw [List.getD_eq_getElem?_getD, List.getElem?_eq_none (by omega)]; simp
theorem u64w (x : Int) : 0 ≤ IntKind.u64.wrap x ∧ IntKind.u64.wrap x < 18446744073709551616 := by
  have e : IntKind.u64.wrap x = x % 18446744073709551616 := by
    simp [IntKind.wrap, IntKind.bits, IntKind.signed]
  rw [e]; omega
theorem and255 (x : Int) : 0 ≤ wrap64 (Go.bits .and .u64 (IntKind.u64.wrap x / 1099511627776) 255) ∧ wrap64 (Go.bits .and .u64 (IntKind.u64.wrap x / 1099511627776) 255) ≤ 255 := by
  have h := u64w x
  rw [u64_and _ _ (by omega) (by omega) (by omega) (by omega)]
  have h2 : (IntKind.u64.wrap x / 1099511627776).toNat &&& (255 : Int).toNat ≤ (255 : Int).toNat := Nat.and_le_right
  have h3 : ((255 : Int).toNat) = 255 := rfl
  rw [h3] at h2 ⊢
  rw [wrap_id (by omega) (by omega)]
  omega
theorem next_f {c : List Int} (h : byteL c) (i s : Int) (hi : 0 ≤ i) (hi2 : i ≤ 1000000) : ∃ b s2, spec_l00Src_next.f c i s = some (b, i + 1, s2) ∧ 0 ≤ b ∧ b ≤ 255 := by
  have hr := rd_byte h i
  have hw : wrap64 (rd c i) = rd c i := wrap_id (by omega) (by omega)
  have hw2 : wrap64 (i + 1) = i + 1 := wrap_id (by omega) (by omega)
  unfold spec_l00Src_next.f
  rw [hw2]
  by_cases h1 : i < (c.length : Int)
  · rw [if_pos h1, if_pos hi]
    by_cases h2 : i + 1 ≤ (c.length : Int)
    · rw [if_pos h2, hw]; exact ⟨_, _, rfl, hr.1, hr.2⟩
    · rw [if_neg h2]
      exact ⟨_, _, rfl, (and255 _).1, (and255 _).2⟩
  · rw [if_neg h1]
    by_cases h2 : i + 1 ≤ (c.length : Int)
    · rw [if_pos h2]; exact ⟨_, _, rfl, by omega, by omega⟩
    · rw [if_neg h2]
      exact ⟨_, _, rfl, (and255 _).1, (and255 _).2⟩
theorem pick_f {c : List Int} (h : byteL c) (i s n : Int) (hi : 0 ≤ i) (hi2 : i ≤ 1000000) (hn : 1 ≤ n) (hn2 : n ≤ 200) : ∃ x i2 s2, spec_l00Src_pick.f c i s n = some (x, i2, s2) ∧ 0 ≤ x ∧ x < n ∧ i ≤ i2 ∧ i2 ≤ i + 1 := by
  unfold spec_l00Src_pick.f
  by_cases h1 : n ≤ 1
  · rw [if_pos h1]; exact ⟨_, _, _, rfl, by omega, by omega, by omega, by omega⟩
  · rw [if_neg h1]
    obtain ⟨b, s2, e, hb, hb2⟩ := next_f h i s hi hi2
    rw [e]
    simp only [Option.bind_some]
    rw [if_neg (by omega), if_neg (by omega)]
    refine ⟨_, _, _, rfl, ?_, ?_, by omega, by omega⟩
    · exact Int.tmod_nonneg _ hb
    · exact Int.tmod_lt_of_pos _ (by omega)
theorem to_ok (a y p : Int) (hp : 2 ≤ p) (hp2 : p ≤ 6) (ha : 0 ≤ a) (ha2 : a < p) (hy : 0 ≤ y) (hy2 : y < p - 1) : 0 ≤ Int.tmod (wrap64 (wrap64 (a + 1) + y)) p ∧ Int.tmod (wrap64 (wrap64 (a + 1) + y)) p < p ∧ a ≠ Int.tmod (wrap64 (wrap64 (a + 1) + y)) p := by
  rw [wrap_id (x := a + 1) (by omega) (by omega), wrap_id (by omega) (by omega), Int.tmod_eq_emod_of_nonneg (by omega)]
  have : p = 2 ∨ p = 3 ∨ p = 4 ∨ p = 5 ∨ p = 6 := by omega
  rcases this with rfl | rfl | rfl | rfl | rfl <;> refine ⟨?_, ?_, ?_⟩ <;> omega
def drawnD (p : Int) (d : D) : Prop := 0 ≤ d.f0 ∧ d.f0 < p ∧ 0 ≤ d.f1 ∧ d.f1 < p ∧ d.f0 ≠ d.f1 ∧ 1 ≤ d.f2 ∧ d.f2 ≤ 60
theorem drawn_loop {c : List Int} (h : byteL c) (p : Int) (hp : 2 ≤ p) (hp2 : p ≤ 6) : ∀ (n : Nat) (l : List D) (i s : Int), n ≤ 8 → l.length + n ≤ 8 → 0 ≤ i → i + 3 * n ≤ 1000 → (∀ d ∈ l, drawnD p d) →
    ∃ r i2 s2, Ev (fun k => spec_l02Drawn.l0 k p l (n : Int) c i s) (p, r, i2, s2) ∧ r.length ≤ 8 ∧ ∀ d ∈ r, drawnD p d := by
  intro n
  induction n with
  | zero =>
    intro l i s _ hl _ _ hd
    refine ⟨l, i, s, Ev.step (f := fun _ => some (p, l, i, s)) (fun k => ?_) (Ev.now _), by omega, hd⟩
    rw [spec_l02Drawn.l0, if_neg (by omega)]
  | succ n ih =>
    intro l i s hn hl hi hi2 hd
    obtain ⟨a, i1, s1, e1, ha, ha2, hi1, hi1b⟩ := pick_f h i s p hi (by omega) (by omega) (by omega)
    obtain ⟨y, i2, s2, e2, hy, hy2, hi2a, hi2b⟩ := pick_f h i1 s1 (p - 1) (by omega) (by omega) (by omega) (by omega)
    obtain ⟨z, i3, s3, e3, hz, hz2, hi3, hi3b⟩ := pick_f h i2 s2 60 (by omega) (by omega) (by omega) (by omega)
    have hto := to_ok a y p hp hp2 ha ha2 hy hy2
    have hz3 : wrap64 (1 + z) = 1 + z := wrap_id (by omega) (by omega)
    have hw : wrap64 (((n + 1 : Nat) : Int) - 1) = (n : Int) := by rw [wrap_id (by omega) (by omega)]; omega
    have hw2 : wrap64 (p - 1) = p - 1 := wrap_id (by omega) (by omega)
    obtain ⟨r, j, t, e, hr, hrd⟩ := ih (l ++ [⟨a, Int.tmod (wrap64 (wrap64 (a + 1) + y)) p, wrap64 (1 + z)⟩]) i3 s3 (by omega) (by rw [List.length_append, List.length_singleton]; omega) (by omega) (by omega) (fun d hdm => by
        rcases List.mem_append.1 hdm with hm | hm
        · exact hd d hm
        · have hm2 := List.mem_singleton.1 hm
          subst hm2
          exact ⟨ha, ha2, hto.1, hto.2.1, hto.2.2, by simp only; omega, by simp only; omega⟩)
    have main : Ev (fun k => spec_l02Drawn.l0 k p l ((n + 1 : Nat) : Int) c i s) (p, r, j, t) := by
      refine Ev.step (fun k => by rw [spec_l02Drawn.l0, hw2]) ?_
      refine ev_pos (by omega) (ev_bind0 e1 (ev_bind0 e2 (ev_neg (by omega) (ev_bind0 e3 (ev_pos (by omega) ?_)))))
      rw [hw]; exact e
    exact ⟨r, j, t, main, hr, hrd⟩
theorem drawn_ev {c : List Int} (h : byteL c) : ∃ p l, Ev (fun k => spec_A2Debts.f k c) (p, l) ∧ 2 ≤ p ∧ p ≤ 6 ∧ l.length ≤ 8 ∧ ∀ d ∈ l, drawnD p d := by
  unfold spec_A2Debts.f
  obtain ⟨x, i1, s1, e1, hx, hx2, hi1, hi1b⟩ := pick_f h 0 0 5 (by omega) (by omega) (by omega) (by omega)
  obtain ⟨n, i2, s2, e2, hn, hn2, hi2, hi2b⟩ := pick_f h i1 s1 9 (by omega) (by omega) (by omega) (by omega)
  have hw : wrap64 (2 + x) = 2 + x := wrap_id (by omega) (by omega)
  obtain ⟨r, j, t, e, hr, hrd⟩ := drawn_loop h (2 + x) (by omega) (by omega) n.toNat [] i2 s2 (by omega) (by simp; omega) (by omega) (by omega) (by simp)
  rw [show ((n.toNat : Nat) : Int) = n by omega] at e
  refine ⟨2 + x, r, ev_bind0 (a := (c, 0, 0)) rfl (Ev.bind (a := (2 + x, r, j, t)) ?_ (Ev.now _)), by omega, by omega, hr, hrd⟩
  unfold spec_l02Drawn.f
  refine ev_bind0 e1 (ev_bind0 e2 ?_)
  dsimp only
  rw [hw]; exact e
theorem drawn_valid {p : Int} {l : List D} (hp : 2 ≤ p) (hp2 : p ≤ 6) (hl : l.length ≤ 8) (hd : ∀ d ∈ l, drawnD p d) : valid p l = true := by
  unfold valid
  rw [Bool.and_eq_true, decide_eq_true_eq, List.all_eq_true]
  refine ⟨⟨by omega, by omega, by omega⟩, fun d hm => okD_true ?_⟩
  have := hd d hm
  unfold drawnD at this
  omega
end Go.Proofs.YtfjmljgbdejghaaDoor.PuDrawNets
-- a text of this session, cut down for this claim
namespace Go.Proofs.YtfjmljgbdejghaaDoor.PuBytNets
open Go.RowKit Go.Proofs.YtfjmljgbdejghaaDoor.MNets Go.Proofs.YtfjmljgbdejghaaDoorW.PrintWords Go.Proofs.YtfjmljgbdejghaaDoorW.PrintLast Go.Proofs.YtfjmljgbdejghaaDoor.Evs
set_option linter.unusedVariables false
set_option linter.unusedSimpArgs false
def mkB (l : List UInt8) : ByteArray := ⟨l.toArray⟩
theorem mkB_size (l : List UInt8) : (mkB l).size = l.length := by simp [mkB, ByteArray.size]
theorem mkB_toList (l : List UInt8) : (mkB l).toList = l := by rw [ByteArray.toList_eq]; simp [mkB]
theorem mkB_data (l : List UInt8) : (mkB l).data.toList = l := by simp [mkB]
theorem mkB_append (a b : List UInt8) : mkB a ++ mkB b = mkB (a ++ b) := by
  apply ByteArray.ext
  rw [ByteArray.data_append]
  simp [mkB]
theorem mkB_of (s : ByteArray) : mkB s.data.toList = s := by simp [mkB]
def decB (n : Nat) : ByteArray := mkB (Lib.decDigits n)
theorem dec_small {n : Nat} (h : n < 10) : Lib.decDigits n = [UInt8.ofNat (48 + n)] := Lib.decDigits_one h
theorem dec_big {n : Nat} (h : ¬ n < 10) : Lib.decDigits n = Lib.decDigits (n / 10) ++ [UInt8.ofNat (48 + n % 10)] := by rw [Lib.decDigits, dif_neg h]
theorem dec_len (m : Nat) : ∀ n : Nat, n < 10 ^ (m + 1) → (Lib.decDigits n).length ≤ m + 1 := by
  induction m with
  | zero => intro n hn; rw [dec_small (by omega)]; simp
  | succ m ih =>
    intro n hn
    by_cases h : n < 10
    · rw [dec_small h]; simp
    · rw [dec_big h, List.length_append]
      have : n / 10 < 10 ^ (m + 1) := by rw [Nat.div_lt_iff_lt_mul (by omega)]; rw [Nat.pow_succ] at hn; exact hn
      have := ih _ this
      simp
      omega
theorem dec_ne (n : Nat) : Lib.decDigits n ≠ [] := by
  by_cases h : n < 10
  · rw [dec_small h]; simp
  · rw [dec_big h]; simp
theorem decimal_eq (n : Int) (h0 : 0 ≤ n) (h1 : n < 1000000000000000000) : impl_decimal.f n = some (decB n.toNat) := by
  unfold impl_decimal.f strconv_FormatInt.f
  rw [if_pos ⟨rfl, by omega, by omega⟩]
  have : Lib.itoa n = Lib.decDigits n.toNat := by unfold Lib.itoa; rw [if_neg (by omega)]
  rw [this]
  rfl
end Go.Proofs.YtfjmljgbdejghaaDoor.PuBytNets
-- a text of this session, cut down for this claim
namespace Go.Proofs.YtfjmljgbdejghaaDoor.PuAmtNets
open Go.RowKit Go.Proofs.YtfjmljgbdejghaaDoor.MNets Go.Proofs.YtfjmljgbdejghaaDoorW.PrintWords Go.Proofs.YtfjmljgbdejghaaDoorW.PrintLast Go.Proofs.YtfjmljgbdejghaaDoor.Evs Go.Proofs.YtfjmljgbdejghaaDoor.PuBytNets
set_option linter.unusedVariables false
set_option linter.unusedSimpArgs false
def part (out : List UInt8) (n : Nat) (u : UInt8) : List UInt8 := if n = 0 then out else (if out = [] then [] else out ++ [32]) ++ Lib.decDigits n ++ [u]
def amtP (a : Nat) : List UInt8 := part (part (part [] (a / 240) 108) (a / 12 % 20) 115) (a % 12) 100
def amtL (a : Nat) : List UInt8 := if a = 0 then [48, 100] else amtP a
theorem part_len (out : List UInt8) (n : Nat) (u : UInt8) (h : n < 100000000) : (part out n u).length ≤ out.length + 10 := by
  unfold part
  split
  · omega
  · have := dec_len 7 n (by omega)
    split <;> simp <;> omega
theorem amtP_len (a : Nat) (h : a ≤ 100000000) : (amtP a).length ≤ 30 := by
  unfold amtP
  have h1 := part_len [] (a / 240) 108 (by omega)
  have h2 := part_len (part [] (a / 240) 108) (a / 12 % 20) 115 (by omega)
  have h3 := part_len (part (part [] (a / 240) 108) (a / 12 % 20) 115) (a % 12) 100 (by omega)
  simp at h1
  omega
theorem amtL_len (a : Nat) (h : a ≤ 100000000) : (amtL a).length ≤ 30 := by
  unfold amtL
  split
  · simp
  · exact amtP_len a h
theorem tdivN (a b : Nat) : Int.tdiv (a : Int) (b : Int) = ((a / b : Nat) : Int) := by rw [Int.tdiv_eq_ediv_of_nonneg (by omega)]; omega
theorem tmodN (a b : Nat) : Int.tmod (a : Int) (b : Int) = ((a % b : Nat) : Int) := by rw [Int.tmod_eq_emod_of_nonneg (by omega)]; omega
theorem n240 (a : Nat) (h : a ≤ 100000000) : wrap64 (Int.tdiv (a : Int) 240) = ((a / 240 : Nat) : Int) := by
  rw [show (240 : Int) = ((240 : Nat) : Int) from rfl, tdivN, wrap_id (by omega) (by omega)]
theorem n12 (a : Nat) (h : a ≤ 100000000) : Int.tmod (wrap64 (Int.tdiv (a : Int) 12)) 20 = ((a / 12 % 20 : Nat) : Int) := by
  rw [show (12 : Int) = ((12 : Nat) : Int) from rfl, tdivN, wrap_id (by omega) (by omega), show (20 : Int) = ((20 : Nat) : Int) from rfl, tmodN]
theorem n1 (a : Nat) : Int.tmod (a : Int) 12 = ((a % 12 : Nat) : Int) := by
  rw [show (12 : Int) = ((12 : Nat) : Int) from rfl, tmodN]
theorem isAmtI (a : Int) : impl_isAmount.f a = some (decide (0 ≤ a ∧ a ≤ 100000000)) := by
  unfold impl_isAmount.f
  by_cases h : a ≥ 0
  · rw [if_pos h]; simp; omega
  · rw [if_neg h]; simp; omega
def amtT (a : Int) : List UInt8 := if 0 ≤ a ∧ a ≤ 100000000 then amtL a.toNat else []
def wd (n : Nat) (u : UInt8) : List (List UInt8) := if n = 0 then [] else [Lib.decDigits n ++ [u]]
def wdB (n : Nat) (u : UInt8) : List ByteArray := (wd n u).map mkB
theorem wdB_map (n : Nat) (u : UInt8) : (wdB n u).map (·.data.toList) = wd n u := by
  unfold wdB wd
  split <;> simp [mkB_data]
theorem join3 (a : Nat) : Lib.join (wd (a / 240) 108 ++ (wd (a / 12 % 20) 115 ++ wd (a % 12) 100)) [32] = amtP a := by
  have e2 : ∀ x y s : List UInt8, Lib.join [x, y] s = x ++ (s ++ y) := by intro x y s; rw [Lib.join_cons]; simp [Lib.joinTail]
  have e3 : ∀ x y z s : List UInt8, Lib.join [x, y, z] s = x ++ (s ++ (y ++ (s ++ z))) := by intro x y z s; rw [Lib.join_cons]; simp [Lib.joinTail]
  unfold amtP part wd
  by_cases h1 : a / 240 = 0 <;> by_cases h2 : a / 12 % 20 = 0 <;> by_cases h3 : a % 12 = 0 <;> simp [h1, h2, h3, e2, e3, Lib.join_nil, Lib.join_one, dec_ne, List.append_assoc]
theorem rnd (x3 : List ByteArray) (p q s i n : Nat) (u : UInt8) (r : ByteArray) (hi : i < 3) (hrd : rd [(p : Int), (q : Int), (s : Int)] (i : Int) = (n : Int)) (hn : n < 1000000000)
    (hu : (⟨#[108, 115, 100]⟩ : ByteArray).extract i (i + 1) = mkB [u]) (hx : x3.length ≤ 10)
    (h : Ev (fun k => impl_AmountText.l0 k (x3 ++ wdB n u) [(p : Int), (q : Int), (s : Int)] 3 ((i : Int) + 1)) r) :
    Ev (fun k => impl_AmountText.l0 k x3 [(p : Int), (q : Int), (s : Int)] 3 (i : Int)) r := by
  refine Ev.step (fun k => by simp only [impl_AmountText.l0]; rfl) ?_
  refine ev_pos (by omega) (ev_pos (by omega) (ev_pos (by simp; omega) ?_))
  rw [wrap_up hi (by omega), hrd]
  by_cases h0 : n = 0
  · refine ev_neg (by omega) ?_
    have e : wdB n u = [] := by simp [wdB, wd, h0]
    rw [e, List.append_nil] at h
    exact h
  · refine ev_pos (by omega) ?_
    refine ev_bind0 (decimal_eq (n : Int) (by omega) (by omega)) ?_
    refine ev_pos (by omega) (ev_pos (by omega) ?_)
    rw [show ((i : Int)).toNat = i by omega, show ((i : Int) + 1).toNat = i + 1 by omega, hu, show ((n : Int)).toNat = n by omega]
    have hd := dec_len 8 n (by omega)
    refine ev_pos (by unfold decB; rw [mkB_size, mkB_size]; simp; omega) (ev_pos (by omega) ?_)
    have e : wdB n u = [decB n ++ mkB [u]] := by simp [wdB, wd, h0, decB, mkB_append]
    rw [e] at h
    exact h
theorem wdB_len (n : Nat) (u : UInt8) : (wdB n u).length ≤ 1 := by
  unfold wdB wd
  split <;> simp
theorem implText_ev (a : Int) : Ev (fun k => impl_AmountText.f k a) (mkB (amtT a)) := by
  unfold impl_AmountText.f amtT
  refine ev_bind0 (isAmtI a) ?_
  by_cases h : ¬ (0 ≤ a ∧ a ≤ 100000000)
  · refine ev_neg (by simpa using h) ?_
    rw [if_neg h]
    exact Ev.now _
  replace h := Decidable.not_not.1 h
  refine ev_pos (by simpa using h) ?_
  rw [if_pos h]
  unfold amtL
  by_cases h0 : a = 0
  · rw [if_pos (by omega)]
    exact ev_pos h0 (Ev.now _)
  rw [if_neg (by omega)]
  refine ev_neg h0 ?_
  obtain ⟨m, rfl⟩ : ∃ m : Nat, a = (m : Int) := ⟨a.toNat, by omega⟩
  have hm : m ≤ 100000000 := by omega
  rw [n240 m hm, n12 m hm, n1 m, show ((m : Int)).toNat = m by omega]
  refine ev_bind0 rfl ?_
  have w1 := wdB_len (m / 240) 108
  have w2 := wdB_len (m / 12 % 20) 115
  have w3 := wdB_len (m % 12) 100
  refine rnd [] _ _ _ 0 (m / 240) 108 _ (by omega) rfl (by omega) (by decide) (by simp) ?_
  refine rnd _ _ _ _ 1 (m / 12 % 20) 115 _ (by omega) rfl (by omega) (by decide) (by simp; omega) ?_
  refine rnd _ _ _ _ 2 (m % 12) 100 _ (by omega) rfl (by omega) (by decide) (by simp; omega) ?_
  refine Ev.step (fun k => by simp only [impl_AmountText.l0]; rfl) ?_
  refine ev_neg (by omega) ?_
  have ej : ([] ++ wdB (m / 240) 108 ++ wdB (m / 12 % 20) 115 ++ wdB (m % 12) 100).map (fun z : ByteArray => z.data.toList) = wd (m / 240) 108 ++ (wd (m / 12 % 20) 115 ++ wd (m % 12) 100) := by
    simp only [List.nil_append, List.map_append, wdB_map, List.append_assoc]
  have hj : strings_Join.f ([] ++ wdB (m / 240) 108 ++ wdB (m / 12 % 20) 115 ++ wdB (m % 12) 100) (⟨#[32]⟩ : ByteArray) = some (mkB (amtP m)) := by
    have hl := amtP_len m hm
    unfold strings_Join.f
    rw [ej, show (⟨#[32]⟩ : ByteArray).data.toList = [32] from rfl, join3 m, if_pos ⟨by simp; omega, by omega⟩]
    rfl
  exact ev_bind0 hj (Ev.now _)
end Go.Proofs.YtfjmljgbdejghaaDoor.PuAmtNets
-- a text of this session, cut down for this claim
namespace Go.Proofs.YtfjmljgbdejghaaDoor.PuDTextNets
open Go.RowKit Go.Proofs.YtfjmljgbdejghaaDoor.MNets Go.Proofs.YtfjmljgbdejghaaDoorW.PrintWords Go.Proofs.YtfjmljgbdejghaaDoorW.PrintLast Go.Proofs.YtfjmljgbdejghaaDoor.Evs Go.Proofs.YtfjmljgbdejghaaDoor.PuDebtNets Go.Proofs.YtfjmljgbdejghaaDoor.PuSumNetsNets Go.Proofs.YtfjmljgbdejghaaDoor.PuBytNets Go.Proofs.YtfjmljgbdejghaaDoor.PuAmtNets
set_option linter.unusedVariables false
set_option linter.unusedSimpArgs false
def lineN (a b c : Nat) : List UInt8 := Lib.decDigits a ++ [32] ++ Lib.decDigits b ++ [32] ++ amtL c ++ [10]
def lineL (d : D) : List UInt8 := lineN d.f0.toNat d.f1.toNat d.f2.toNat
def dtext (l : List D) : List UInt8 := (l.map lineL).flatten
theorem lineN_len (a b c : Nat) (ha : a < 100) (hb : b < 100) (hc : c ≤ 100000000) : (lineN a b c).length ≤ 100 := by
  have h1 := dec_len 1 a (by omega)
  have h2 := dec_len 1 b (by omega)
  have h3 := amtL_len c hc
  unfold lineN
  simp only [List.length_append, List.length_singleton]
  omega
theorem m32 : (⟨#[32]⟩ : ByteArray) = mkB [32] := rfl
theorem m10 : (⟨#[10]⟩ : ByteArray) = mkB [10] := rfl
theorem row (s : List UInt8) (a b c : Nat) (ha : a < 100) (hb : b < 100) (hc : c ≤ 100000000) (hs : s.length ≤ 10000) {f1 f2 f3 : Nat → Option ByteArray} {G : Nat → ByteArray → Option ByteArray} {r : ByteArray}
    (h1 : Ev f1 (decB a)) (h2 : Ev f2 (decB b)) (h3 : Ev f3 (mkB (amtL c))) (h : Ev (fun k => G k (mkB (s ++ lineN a b c))) r) :
    Ev (fun k => (f1 k).bind fun t163 => (if t163.size + 1 ≤ 9223372036854775807 then ((f2 k).bind fun t164 => (if (t163 ++ (⟨#[32]⟩ : ByteArray)).size + t164.size ≤ 9223372036854775807 then (if ((t163 ++ (⟨#[32]⟩ : ByteArray)) ++ t164).size + 1 ≤ 9223372036854775807 then ((f3 k).bind fun t165 => (if (((t163 ++ (⟨#[32]⟩ : ByteArray)) ++ t164) ++ (⟨#[32]⟩ : ByteArray)).size + t165.size ≤ 9223372036854775807 then (if ((((t163 ++ (⟨#[32]⟩ : ByteArray)) ++ t164) ++ (⟨#[32]⟩ : ByteArray)) ++ t165).size + 1 ≤ 9223372036854775807 then (if (mkB s).size + (((((t163 ++ (⟨#[32]⟩ : ByteArray)) ++ t164) ++ (⟨#[32]⟩ : ByteArray)) ++ t165) ++ (⟨#[10]⟩ : ByteArray)).size ≤ 9223372036854775807 then (G k ((mkB s) ++ (((((t163 ++ (⟨#[32]⟩ : ByteArray)) ++ t164) ++ (⟨#[32]⟩ : ByteArray)) ++ t165) ++ (⟨#[10]⟩ : ByteArray)))) else (none)) else (none)) else (none))) else (none)) else (none))) else (none))) r := by
  have l1 := dec_len 1 a (by omega)
  have l2 := dec_len 1 b (by omega)
  have l3 := amtL_len c hc
  refine Ev.bind h1 ?_
  unfold decB
  refine ev_pos (by rw [mkB_size]; omega) (Ev.bind h2 ?_)
  unfold decB
  simp only [m32, m10, mkB_append, mkB_size]
  refine ev_pos (by simp only [List.length_append, List.length_singleton]; omega) (ev_pos (by simp only [List.length_append, List.length_singleton]; omega) (Ev.bind h3 ?_))
  simp only [m32, m10, mkB_append, mkB_size]
  refine ev_pos (by simp only [List.length_append, List.length_singleton]; omega) (ev_pos (by simp only [List.length_append, List.length_singleton]; omega) (ev_pos (by simp only [List.length_append, List.length_singleton]; omega) ?_))
  exact h
theorem dtext_drop (l : List D) (i : Nat) (h : i < l.length) : dtext (l.drop i) = lineL l[i] ++ dtext (l.drop (i + 1)) := by
  rw [List.drop_eq_getElem_cons h]; rfl
theorem textI_ev (l : List D) (hv : valid 16 l = true) : Ev (fun k => impl_DebtsText.l0 k (⟨#[]⟩ : ByteArray) l (l.length : Int) 0) (mkB (dtext l)) := by
  obtain ⟨hp, hp2, h60, hd⟩ := valid_bd hv
  have key := ev_forI (σ := List UInt8) (n := l.length) (G := fun k s i => impl_DebtsText.l0 k (mkB s) l (l.length : Int) i) (F := fun s i => mkB (s ++ dtext (l.drop i))) (I := fun s i => s.length ≤ 100 * i) ?_ ?_ 0 (by omega) [] (by simp)
  · exact key
  · intro i hi ih s hs
    have hb := hd l[i] (List.getElem_mem hi)
    refine Ev.step (fun k => by simp only [impl_DebtsText.l0]; rfl) ?_
    refine ev_pos (by omega) (ev_pos (by omega) (ev_pos (by omega) ?_))
    rw [rdD l i hi, wrap_up hi (by omega)]
    have hn := lineN_len l[i].f0.toNat l[i].f1.toNat l[i].f2.toNat (by omega) (by omega) (by omega)
    have ht := implText_ev l[i].f2
    rw [show amtT l[i].f2 = amtL l[i].f2.toNat by unfold amtT; rw [if_pos (by omega)]] at ht
    have e1 : Ev (fun _ => impl_decimal.f l[i].f0) (decB l[i].f0.toNat) := by rw [decimal_eq _ (by omega) (by omega)]; exact Ev.now _
    have e2 : Ev (fun _ => impl_decimal.f l[i].f1) (decB l[i].f1.toNat) := by rw [decimal_eq _ (by omega) (by omega)]; exact Ev.now _
    refine row s l[i].f0.toNat l[i].f1.toNat l[i].f2.toNat (by omega) (by omega) (by omega) (by omega) (G := fun k x => impl_DebtsText.l0 k x l (l.length : Int) ((i : Int) + 1)) e1 e2 ht ?_
    refine ev_eq (ih _ (by rw [List.length_append]; omega)) ?_
    rw [dtext_drop l i hi, List.append_assoc]; rfl
  · intro s hs
    refine Ev.step (fun k => by simp only [impl_DebtsText.l0]; rfl) ?_
    refine ev_neg (by omega) ?_
    refine ev_eq (Ev.now _) ?_
    rw [List.drop_length]
    simp [dtext]
def dtextR (l : List D) : List UInt8 := if valid 16 l = true then dtext l else []
theorem DTextI_ev (l : List D) (hl : l.length ≤ maxLen) : Ev (fun k => impl_DebtsText.f k l) (mkB (dtextR l)) := by
  unfold impl_DebtsText.f dtextR
  refine Ev.bind (ValidI_ev 16 l hl) ?_
  by_cases hv : valid 16 l = true
  · rw [if_pos hv]
    exact ev_pos hv (textI_ev l hv)
  · rw [if_neg hv]
    exact ev_neg hv (Ev.now _)
end Go.Proofs.YtfjmljgbdejghaaDoor.PuDTextNets
-- a text of this session, cut down for this claim
namespace Go.Proofs.YtfjmljgbdejghaaDoor.PuWordsNets
open Go.RowKit Go.Proofs.YtfjmljgbdejghaaDoor.MNets Go.Proofs.YtfjmljgbdejghaaDoorW.PrintWords Go.Proofs.YtfjmljgbdejghaaDoorW.PrintLast Go.Proofs.YtfjmljgbdejghaaDoor.Evs Go.Proofs.YtfjmljgbdejghaaDoor.PuBytNets
set_option linter.unusedVariables false
set_option linter.unusedSimpArgs false
def glue (p : List UInt8) : List (List UInt8) → List (List UInt8)
  | [] => [p]
  | w :: ws => (p ++ w) :: ws
def words (c : UInt8) : List UInt8 → List (List UInt8)
  | [] => [[]]
  | b :: l => if b = c then [] :: words c l else glue [b] (words c l)
theorem glue_ne (p : List UInt8) (ws : List (List UInt8)) : glue p ws ≠ [] := by cases ws <;> simp [glue]
theorem words_ne (c : UInt8) (l : List UInt8) : words c l ≠ [] := by
  cases l with
  | nil => simp [words]
  | cons b l => unfold words; split; simp; exact glue_ne _ _
theorem words_none {c : UInt8} : ∀ {l : List UInt8}, c ∉ l → words c l = [l]
  | [], _ => rfl
  | b :: l, h => by
    simp only [List.mem_cons, not_or] at h
    unfold words
    rw [if_neg (fun e => h.1 e.symm), words_none h.2]
    rfl
theorem words_hit {c : UInt8} (r : List UInt8) : ∀ {a : List UInt8}, c ∉ a → words c (a ++ c :: r) = a :: words c r
  | [], _ => by show words c (c :: r) = _; rw [words, if_pos rfl]
  | b :: l, h => by
    simp only [List.mem_cons, not_or] at h
    show words c (b :: (l ++ c :: r)) = _
    rw [words, if_neg (fun e => h.1 e.symm), words_hit r h.2]
    rfl
theorem splitK_words (c : UInt8) : ∀ (n : Nat) (l : List UInt8), l.length ≤ n → Lib.splitK [c] 0 (Lib.count l [c]) l = words c l := by
  intro n
  induction n with
  | zero =>
    intro l hl
    have : l = [] := List.length_eq_zero_iff.1 (by omega)
    subst this
    have h : Lib.index [] [c] = -1 := rfl
    rw [Lib.count_miss h]
    rfl
  | succ n ih =>
    intro l hl
    have hge := Lib.index_ge l [c]
    by_cases h : Lib.index l [c] = -1
    · rw [Lib.count_miss h]
      rw [Lib.index_one] at h
      have hno := Lib.indexByte_none h
      rw [words_none (fun hm => by
        obtain ⟨k, hk⟩ := List.getElem?_of_mem hm
        exact hno k hk)]
      rfl
    · obtain ⟨i, hi⟩ : ∃ i : Nat, Lib.index l [c] = (i : Int) := ⟨(Lib.index l [c]).toNat, by omega⟩
      rw [Lib.count_hit (by simp) hi, Nat.add_comm, Lib.splitK]
      rw [if_neg (by rw [beq_iff_eq]; exact h), hi]
      have hi' := hi
      rw [Lib.index_one] at hi'
      obtain ⟨h1, h2⟩ := Lib.indexByte_some hi'
      have hlt : i < l.length := by
        rcases Nat.lt_or_ge i l.length with h | h
        · exact h
        · rw [List.getElem?_eq_none h] at h1; cases h1
      have hd : l.drop i = c :: l.drop (i + 1) := by
        rw [List.drop_eq_getElem_cons hlt]
        rw [List.getElem?_eq_getElem hlt] at h1
        injection h1 with h1
        rw [h1]
      have e : l = l.take i ++ c :: l.drop (i + 1) := by rw [← hd, List.take_append_drop]
      have hno : c ∉ l.take i := fun hm => by
        obtain ⟨k, hk⟩ := List.getElem?_of_mem hm
        have hki : k < i := by
          rcases Nat.lt_or_ge k i with h | h
          · exact h
          · rw [List.getElem?_take, if_neg (by omega)] at hk; cases hk
        rw [List.getElem?_take, if_pos hki] at hk
        exact h2 k hki hk
      have hw : words c l = l.take i :: words c (l.drop (i + 1)) := by
        conv => lhs; rw [e]
        exact words_hit _ hno
      rw [hw]
      simp only [Int.toNat_natCast, Nat.add_zero, List.length_singleton]
      rw [ih (l.drop (i + 1)) (by rw [List.length_drop]; omega)]
theorem splitB_words (c : UInt8) (l : List UInt8) : Lib.splitB (mkB [c]) 0 (Lib.countB (mkB l) (mkB [c])) (mkB l) = (words c l).map mkB := by
  have h := Lib.splitB_data (mkB [c]) 0 (Lib.countB (mkB l) (mkB [c])) (mkB l)
  rw [mkB_data, mkB_data] at h
  have hc : Lib.countB (mkB l) (mkB [c]) = Lib.count l [c] := by
    show Lib.count (mkB l).data.toList (mkB [c]).data.toList = _
    rw [mkB_data, mkB_data]
  rw [hc, splitK_words c l.length l (Nat.le_refl _)] at h
  rw [hc, ← h, List.map_map]
  have : (mkB ∘ fun x : ByteArray => x.data.toList) = id := by funext x; exact mkB_of x
  rw [this, List.map_id]
theorem eq_mkB {x : ByteArray} {l : List UInt8} (h : x.data.toList = l) : x = mkB l := by rw [← h, mkB_of]
theorem mkB_extract (l : List UInt8) (a b : Nat) : (mkB l).extract a b = mkB ((l.drop a).take (b - a)) := by
  apply eq_mkB
  rw [Lib.extract_data, mkB_data]
theorem bt_mk (l : List UInt8) (i : Nat) (h : i < l.length) : bt (mkB l) (i : Int) = ((l[i]).toNat : Int) := by
  unfold bt
  rw [dif_pos (by rw [mkB_size]; omega)]
  rfl
theorem words_len (c : UInt8) (l : List UInt8) : (words c l).length ≤ l.length + 1 := by
  induction l with
  | nil => simp [words]
  | cons b l ih =>
    unfold words
    split
    · simp; omega
    · have := words_ne c l
      cases h : words c l with
      | nil => exact absurd h this
      | cons w ws => rw [h] at ih; simp [glue] at ih ⊢; omega
theorem words_join (c : UInt8) : ∀ (ws : List (List UInt8)), ws ≠ [] → (∀ w ∈ ws, c ∉ w) → words c (Lib.join ws [c]) = ws
  | [], h, _ => absurd rfl h
  | [w], _, h => by rw [Lib.join_one]; exact words_none (h w (by simp))
  | w :: v :: ws, _, h => by
    have e : Lib.join (w :: v :: ws) [c] = w ++ c :: Lib.join (v :: ws) [c] := by
      rw [Lib.join_cons, Lib.join_cons]
      simp [Lib.joinTail]
    rw [e, words_hit _ (h w (by simp)), words_join c (v :: ws) (by simp) (fun x hx => h x (List.mem_cons_of_mem _ hx))]
end Go.Proofs.YtfjmljgbdejghaaDoor.PuWordsNets
-- a text of this session, cut down for this claim
namespace Go.Proofs.YtfjmljgbdejghaaDoor.PuNumNets
open Go.RowKit Go.Proofs.YtfjmljgbdejghaaDoor.MNets Go.Proofs.YtfjmljgbdejghaaDoorW.PrintWords Go.Proofs.YtfjmljgbdejghaaDoorW.PrintLast Go.Proofs.YtfjmljgbdejghaaDoor.Evs Go.Proofs.YtfjmljgbdejghaaDoor.PuBytNets Go.Proofs.YtfjmljgbdejghaaDoor.PuWordsNets
set_option linter.unusedVariables false
set_option linter.unusedSimpArgs false
def isD (b : UInt8) : Bool := decide (48 ≤ b.toNat ∧ b.toNat ≤ 57)
def digs (w : List UInt8) : Bool := w.all isD
theorem not_digs (b : UInt8) (w : List UInt8) (h : ¬ (48 ≤ b.toNat ∧ b.toNat ≤ 57)) : ¬ digs (b :: w) = true := by
  intro e
  simp only [digs, List.all_cons, Bool.and_eq_true] at e
  exact h (of_decide_eq_true (show decide (48 ≤ b.toNat ∧ b.toNat ≤ 57) = true from e.1))
def valF (n : Nat) (w : List UInt8) : Nat := w.foldl (fun n b => 10 * n + (b.toNat - 48)) n
theorem valF_append (n : Nat) (a b : List UInt8) : valF n (a ++ b) = valF (valF n a) b := by simp [valF]
def numOf (m : Nat) (w : List UInt8) : Int × Bool :=
  if w = [] ∨ m < w.length ∨ (w.head? = some 48 ∧ 1 < w.length) then (0, false) else if digs w = true then ((valF 0 w : Nat), true) else (0, false)
def tailN (n : Nat) (w : List UInt8) : Int × Bool := if digs w = true then ((valF n w : Nat), true) else (0, false)
theorem digit_step (b : UInt8) (h : 48 ≤ b.toNat ∧ b.toNat ≤ 57) : (((b.toNat : Int) - 48) % 256) = ((b.toNat - 48 : Nat) : Int) := by omega
theorem loopI (w : List UInt8) (hw : w.length ≤ 10) : Ev (fun k => impl_number.l0 k (mkB w) 0 (w.length : Int) 0) (tailN 0 w) := by
  have key := ev_forI (σ := Nat) (n := w.length) (G := fun k s i => impl_number.l0 k (mkB w) (s : Int) (w.length : Int) i) (F := fun s i => tailN s (w.drop i)) (I := fun s i => s < 10 ^ i) ?_ ?_ 0 (by omega) 0 (by decide)
  · exact key
  · intro i hi ih s hs
    have hp : 10 ^ i ≤ 10 ^ 9 := Nat.pow_le_pow_right (by omega) (by omega)
    refine Ev.step (fun k => by simp only [impl_number.l0]; rfl) ?_
    refine ev_pos (by omega) (ev_pos (by omega) (ev_pos (by rw [mkB_size]; omega) ?_))
    rw [bt_mk w i hi, List.drop_eq_getElem_cons hi]
    by_cases h1 : (w[i]).toNat < 48
    · refine ev_pos (by omega) ?_
      have : tailN s (w[i] :: w.drop (i + 1)) = (0, false) := by
        unfold tailN
        rw [if_neg (not_digs _ _ (by omega))]
      rw [this]; exact Ev.now _
    refine ev_neg (by omega) ?_
    by_cases h2 : 57 < (w[i]).toNat
    · refine ev_pos (by omega) ?_
      have : tailN s (w[i] :: w.drop (i + 1)) = (0, false) := by
        unfold tailN
        rw [if_neg (not_digs _ _ (by omega))]
      rw [this]; exact Ev.now _
    refine ev_neg (by omega) ?_
    have hb : 48 ≤ (w[i]).toNat ∧ (w[i]).toNat ≤ 57 := by omega
    rw [digit_step _ hb, wrap_id (x := (s : Int) * 10) (by omega) (by omega), wrap_id (by omega) (by omega), wrap_up hi (by omega)]
    have := ih (10 * s + ((w[i]).toNat - 48)) (by rw [Nat.pow_succ]; omega)
    rw [show (((10 * s + ((w[i]).toNat - 48) : Nat)) : Int) = (s : Int) * 10 + (((w[i]).toNat - 48 : Nat) : Int) by omega] at this
    refine ev_eq this ?_
    unfold tailN
    have e : digs (w[i] :: w.drop (i + 1)) = digs (w.drop (i + 1)) := by
      unfold digs; rw [List.all_cons]; simp [isD, hb]
    rw [e]; rfl
  · intro s hs
    refine Ev.step (fun k => by simp only [impl_number.l0]; rfl) ?_
    refine ev_neg (by omega) ?_
    rw [List.drop_length]
    exact Ev.now _
theorem bt0 (b : UInt8) (w : List UInt8) : bt (mkB (b :: w)) 0 = (b.toNat : Int) := bt_mk (b :: w) 0 (by simp)
theorem numI_ev (w : List UInt8) : Ev (fun k => impl_number.f k (mkB w)) (numOf 9 w) := by
  unfold impl_number.f
  rw [mkB_toList, mkB_size]
  cases w with
  | nil =>
    refine ev_pos rfl (Ev.step (fun k => by simp only [impl_number.j0]; rfl) (ev_pos (c := (true = true)) rfl ?_))
    exact Ev.now _
  | cons b w =>
    refine ev_neg (by simp) ?_
    by_cases h1 : (9 : Int) < ((b :: w).length : Int)
    · refine ev_pos h1 (Ev.step (fun k => by simp only [impl_number.j0]; rfl) (ev_pos (c := (true = true)) rfl ?_))
      have : numOf 9 (b :: w) = (0, false) := by unfold numOf; rw [if_pos (.inr (.inl (by omega)))]
      rw [this]; exact Ev.now _
    refine ev_neg h1 (ev_pos (by rw [List.length_cons]; omega) ?_)
    rw [bt0]
    by_cases h2 : b = 48 ∧ 1 < (b :: w).length
    · refine ev_pos (by rw [h2.1]; rfl) (Ev.step (fun k => by simp only [impl_number.j0]; rfl) (ev_pos (decide_eq_true (by have := h2.2; omega)) ?_))
      have : numOf 9 (b :: w) = (0, false) := by unfold numOf; rw [if_pos (.inr (.inr ⟨by rw [h2.1]; rfl, h2.2⟩))]
      rw [this]; exact Ev.now _
    have e : numOf 9 (b :: w) = tailN 0 (b :: w) := by
      unfold numOf tailN
      rw [if_neg]
      rintro (h | h | ⟨h, h'⟩)
      · simp at h
      · omega
      · exact h2 ⟨by simpa using h, h'⟩
    rw [e]
    have hl := loopI (b :: w) (by omega)
    rw [show (((b :: w).length : Nat) : Int) = ((mkB (b :: w)).size : Int) by rw [mkB_size]] at hl
    have hs : ((b :: w).length : Int) = ((mkB (b :: w)).size : Int) := by rw [mkB_size]
    by_cases h3 : (b.toNat : Int) = 48
    · have hb : b = 48 := UInt8.toNat_inj.1 (by have h48 : (48 : UInt8).toNat = 48 := rfl; omega)
      have : ¬ 1 < (b :: w).length := fun h => h2 ⟨hb, h⟩
      refine ev_pos h3 (Ev.step (fun k => by simp only [impl_number.j0]; rfl) (ev_neg (fun e => this (by have := of_decide_eq_true e; omega)) hl))
    · exact ev_neg h3 (Ev.step (fun k => by simp only [impl_number.j0]; rfl) (ev_neg (by simp) hl))
theorem dig_byte (n : Nat) : (UInt8.ofNat (48 + n % 10)).toNat = 48 + n % 10 := by
  rw [UInt8.toNat_ofNat']; omega
theorem dec_digs : ∀ n : Nat, digs (Lib.decDigits n) = true := by
  intro n
  induction n using Nat.strongRecOn with
  | ind n ih =>
    by_cases h : n < 10
    · rw [dec_small h, show n = n % 10 by omega]
      simp only [digs, List.all_cons, List.all_nil, Bool.and_true, isD, dig_byte]
      simp; omega
    · rw [dec_big h]
      have := ih (n / 10) (by omega)
      simp only [digs, List.all_append, Bool.and_eq_true] at this ⊢
      refine ⟨this, ?_⟩
      simp only [List.all_cons, List.all_nil, Bool.and_true, isD, dig_byte]
      simp; omega
theorem dec_val : ∀ n : Nat, valF 0 (Lib.decDigits n) = n := by
  intro n
  induction n using Nat.strongRecOn with
  | ind n ih =>
    by_cases h : n < 10
    · rw [dec_small h]
      show 10 * 0 + ((UInt8.ofNat (48 + n)).toNat - 48) = n
      have := dig_byte n
      rw [show n % 10 = n by omega] at this
      rw [this]; omega
    · rw [dec_big h, valF_append, ih (n / 10) (by omega)]
      show 10 * (n / 10) + ((UInt8.ofNat (48 + n % 10)).toNat - 48) = n
      rw [dig_byte]; omega
theorem dec_head : ∀ n : Nat, 1 ≤ n → (Lib.decDigits n).head? ≠ some 48 := by
  intro n
  induction n using Nat.strongRecOn with
  | ind n ih =>
    intro h1
    by_cases h : n < 10
    · rw [dec_small h]
      intro e
      simp only [List.head?_cons, Option.some.injEq] at e
      have := dig_byte n
      rw [show n % 10 = n by omega, e] at this
      have h48 : (48 : UInt8).toNat = 48 := rfl
      omega
    · rw [dec_big h]
      have := ih (n / 10) (by omega) (by omega)
      cases hd : Lib.decDigits (n / 10) with
      | nil => exact absurd hd (dec_ne _)
      | cons b l => rw [hd] at this; simpa using this
theorem num_dec (m : Nat) (n : Nat) (h : (Lib.decDigits n).length ≤ m) : numOf m (Lib.decDigits n) = ((n : Int), true) := by
  unfold numOf
  rw [if_neg, if_pos (dec_digs n), dec_val]
  rintro (h1 | h1 | ⟨h1, h2⟩)
  · exact dec_ne n h1
  · omega
  · by_cases h0 : n = 0
    · subst h0
      rw [dec_small (by omega)] at h2
      simp at h2
    · exact dec_head n (by omega) h1
end Go.Proofs.YtfjmljgbdejghaaDoor.PuNumNets
-- a text of this session, cut down for this claim
namespace Go.Proofs.YtfjmljgbdejghaaDoor.PuReadNets
open Go.RowKit Go.Proofs.YtfjmljgbdejghaaDoor.MNets Go.Proofs.YtfjmljgbdejghaaDoorW.PrintWords Go.Proofs.YtfjmljgbdejghaaDoorW.PrintLast Go.Proofs.YtfjmljgbdejghaaDoor.Evs Go.Proofs.YtfjmljgbdejghaaDoor.PuBytNets Go.Proofs.YtfjmljgbdejghaaDoor.PuWordsNets Go.Proofs.YtfjmljgbdejghaaDoor.PuNumNets Go.Proofs.YtfjmljgbdejghaaDoor.PuAmtNets
set_option linter.unusedVariables false
set_option linter.unusedSimpArgs false
theorem ev_if {α : Type} {c : Prop} [Decidable c] {f g : Nat → Option α} {r : α} (h1 : c → Ev f r) (h2 : ¬ c → Ev g r) : Ev (fun n => if c then f n else g n) r := by
  by_cases h : c
  · exact ev_pos h (h1 h)
  · exact ev_neg h (h2 h)
theorem rdOf_mk (ws : List (List UInt8)) (i : Nat) (h : i < ws.length) : rdOf ByteArray.empty (ws.map mkB) (i : Int) = mkB (ws[i]) := by
  unfold rdOf
  rw [show ((i : Int)).toNat = i by omega, getD_lt _ _ _ (by simpa using h), List.getElem_map]
theorem lastB (l : List UInt8) (b : UInt8) : bt (mkB (l ++ [b])) (l.length : Int) = (b.toNat : Int) := by
  rw [bt_mk _ _ (by simp)]
  simp
theorem initB (l : List UInt8) (b : UInt8) : (mkB (l ++ [b])).extract 0 l.length = mkB l := by
  rw [mkB_extract]; simp
theorem split_last (w : List UInt8) (h : w ≠ []) : ∃ l b, w = l ++ [b] := ⟨w.dropLast, w.getLast h, (List.dropLast_concat_getLast h).symm⟩
def unit (b : UInt8) : Option Int := if b = 100 then some 1 else if b = 115 then some 12 else if b = 108 then some 240 else none
def stepI (s : Int) (w : List UInt8) : Option Int :=
  if w = [] then none else
  if (numOf 9 w.dropLast).2 = true then (unit (w.getLast?.getD 0)).map fun u => wrap64 (s + wrap64 ((numOf 9 w.dropLast).1 * u)) else none
def runI (l : List UInt8) : Int → List (List UInt8) → Int × Int
  | s, [] => if amtT s = l then (s, 0) else (0, 5)
  | s, w :: ws => match stepI s w with | none => (0, 5) | some s' => runI l s' ws
theorem stepI_mk (s : Int) (l : List UInt8) (b : UInt8) : stepI s (l ++ [b]) = if (numOf 9 l).2 = true then (unit b).map fun u => wrap64 (s + wrap64 ((numOf 9 l).1 * u)) else none := by
  unfold stepI
  rw [if_neg (by simp), List.dropLast_concat]
  simp
theorem idx_dsl (b : UInt8) : strings_IndexByte.f (⟨#[100, 115, 108]⟩ : ByteArray) (b.toNat : Int) = some (if b = 100 then 0 else if b = 115 then 1 else if b = 108 then 2 else -1) := by
  have e : ((b.toNat : Int)).toNat.toUInt8 = b := by rw [Int.toNat_natCast]; exact UInt8.ofNat_toNat
  unfold strings_IndexByte.f
  rw [if_pos trivial, e]
  congr 1
  show Lib.indexByte [100, 115, 108] b = _
  by_cases h1 : b = 100
  · subst h1; rfl
  by_cases h2 : b = 115
  · subst h2; rfl
  by_cases h3 : b = 108
  · subst h3; rfl
  rw [if_neg h1, if_neg h2, if_neg h3]
  have e1 : ((100 : UInt8) == b) = false := by rw [beq_eq_false_iff_ne]; exact fun h => h1 h.symm
  have e2 : ((115 : UInt8) == b) = false := by rw [beq_eq_false_iff_ne]; exact fun h => h2 h.symm
  have e3 : ((108 : UInt8) == b) = false := by rw [beq_eq_false_iff_ne]; exact fun h => h3 h.symm
  simp [Lib.indexByte, e1, e2, e3]
theorem worth0 : impl_worth.f 0 = some 1 := by unfold impl_worth.f; rfl
theorem worth1 : impl_worth.f 1 = some 12 := by unfold impl_worth.f; rfl
theorem worth2 : impl_worth.f 2 = some 240 := by unfold impl_worth.f; rfl
theorem words_each (c : UInt8) : ∀ (l : List UInt8), ∀ w ∈ words c l, w.length ≤ l.length
  | [], w, h => by simp [words] at h; subst h; simp
  | b :: l, w, h => by
    unfold words at h
    split at h
    · rcases List.mem_cons.1 h with rfl | h
      · simp
      · have := words_each c l w h; simp; omega
    · cases hw : words c l with
      | nil => exact absurd hw (words_ne _ _)
      | cons v vs =>
        rw [hw] at h
        simp only [glue, List.mem_cons] at h
        rcases h with rfl | h
        · have := words_each c l v (by rw [hw]; simp); simp; omega
        · have := words_each c l w (by rw [hw]; simp [h]); simp; omega
theorem wl (a : List UInt8) (b : UInt8) (h : (a ++ [b]).length ≤ 4000000000000) : wrap64 (((mkB (a ++ [b])).size : Int) - 1) = (a.length : Int) := by
  rw [mkB_size, List.length_append, List.length_singleton]
  rw [List.length_append, List.length_singleton] at h
  rw [wrap_id (by omega) (by omega)]; omega
theorem unit_cases (b : UInt8) : (b = 100 ∧ unit b = some 1) ∨ (b = 115 ∧ unit b = some 12) ∨ (b = 108 ∧ unit b = some 240) ∨ (b ≠ 100 ∧ b ≠ 115 ∧ b ≠ 108 ∧ unit b = none) := by
  unfold unit
  by_cases h1 : b = 100
  · exact .inl ⟨h1, by rw [if_pos h1]⟩
  by_cases h2 : b = 115
  · exact .inr (.inl ⟨h2, by rw [if_neg h1, if_pos h2]⟩)
  by_cases h3 : b = 108
  · exact .inr (.inr (.inl ⟨h3, by rw [if_neg h1, if_neg h2, if_pos h3]⟩))
  · exact .inr (.inr (.inr ⟨h1, h2, h3, by rw [if_neg h1, if_neg h2, if_neg h3]⟩))
theorem loopRI (l : List UInt8) (ws : List (List UInt8)) (hn : ws.length ≤ 4000000000000) (hw : ∀ w ∈ ws, w.length ≤ 4000000000000) :
    Ev (fun k => impl_ReadAmount.l0 k (mkB l) 0 (ws.map mkB) (ws.length : Int) 0) (runI l 0 ws) := by
  have key := ev_for (σ := Int) (n := ws.length) (G := fun k s i => impl_ReadAmount.l0 k (mkB l) s (ws.map mkB) (ws.length : Int) i) (F := fun s i => runI l s (ws.drop i)) ?_ ?_ 0 (by omega) 0
  · exact key
  · intro i hi ih s
    refine Ev.step (fun k => by simp only [impl_ReadAmount.l0]; rfl) ?_
    refine ev_pos (by omega) (ev_pos (by omega) (ev_pos (by rw [List.length_map]; omega) ?_))
    rw [rdOf_mk ws i hi, List.drop_eq_getElem_cons hi, wrap_up hi (by omega)]
    have hlen := hw _ (List.getElem_mem hi)
    show Ev _ (match stepI s ws[i] with | none => (0, 5) | some s' => runI l s' (ws.drop (i + 1)))
    generalize ws[i] = w at hlen ⊢
    refine ev_if (fun h0 => ?_) (fun h0 => ?_)
    · rw [mkB_toList] at h0
      have : stepI s w = none := by unfold stepI; rw [if_pos h0]
      rw [this]; exact Ev.now _
    rw [mkB_toList] at h0
    obtain ⟨a, b, rfl⟩ := split_last _ h0
    have hl1 : ((mkB (a ++ [b])).size : Int) = (a.length : Int) + 1 := by rw [mkB_size]; simp
    rw [wl a b hlen, stepI_mk]
    refine ev_pos (by omega) (ev_pos (by rw [hl1]; omega) ?_)
    rw [Int.toNat_natCast, initB]
    refine Ev.bind (numI_ev a) (ev_pos (by rw [hl1]; omega) ?_)
    rw [lastB]
    refine ev_bind0 (idx_dsl b) ?_
    by_cases hok : (numOf 9 a).2 = true
    · refine ev_pos hok ?_
      rw [if_pos hok]
      rcases unit_cases b with ⟨hb, hu⟩ | ⟨hb, hu⟩ | ⟨hb, hu⟩ | ⟨h1, h2, h3, hu⟩
      · subst hb
        rw [hu, if_pos rfl]
        exact ev_neg (by omega) (ev_bind0 worth0 (ih _))
      · subst hb
        rw [hu, if_neg (by decide), if_pos rfl]
        exact ev_neg (by omega) (ev_bind0 worth1 (ih _))
      · subst hb
        rw [hu, if_neg (by decide), if_neg (by decide), if_pos rfl]
        exact ev_neg (by omega) (ev_bind0 worth2 (ih _))
      · rw [hu, if_neg h1, if_neg h2, if_neg h3]
        exact ev_pos (by omega) (Ev.now _)
    · refine ev_neg hok ?_
      rw [if_neg hok]
      exact Ev.now _
  · intro s
    refine Ev.step (fun k => by simp only [impl_ReadAmount.l0]; rfl) ?_
    refine ev_neg (by omega) ?_
    rw [List.drop_length]
    refine Ev.bind (implText_ev s) ?_
    show Ev _ (if amtT s = l then (s, 0) else (0, 5))
    refine ev_if (fun h => ?_) (fun h => ?_)
    · rw [mkB_toList, mkB_toList] at h
      rw [if_pos h]; exact Ev.now _
    · rw [mkB_toList, mkB_toList] at h
      rw [if_neg h]; exact Ev.now _
theorem runI_end (l : List UInt8) : ∀ (ws : List (List UInt8)) (s : Int), runI l s ws = (0, 5) ∨ ∃ s', amtT s' = l ∧ runI l s ws = (s', 0)
  | [], s => by
    unfold runI
    by_cases h : amtT s = l
    · rw [if_pos h]; exact .inr ⟨s, h, rfl⟩
    · rw [if_neg h]; exact .inl rfl
  | w :: ws, s => by
    show (match stepI s w with | none => (0, 5) | some s' => runI l s' ws) = _ ∨ ∃ s', _ ∧ (match stepI s w with | none => (0, 5) | some s' => runI l s' ws) = _
    cases stepI s w with
    | none => exact .inl rfl
    | some s' => exact runI_end l ws s'
theorem wd_step (s : Int) (n : Nat) (u : UInt8) (v : Int) (hn : n < 1000000000) (hu : unit u = some v) (h0 : 0 ≤ s) (hs : s ≤ 1000000000000) (hv : 0 ≤ v ∧ v ≤ 240) :
    stepI s (Lib.decDigits n ++ [u]) = some (s + (n : Int) * v) := by
  have hl := dec_len 8 n (by omega)
  rw [stepI_mk, num_dec 9 n (by omega), if_pos rfl, hu]
  have : (0 : Int) ≤ (n : Int) * v := Int.mul_nonneg (by omega) hv.1
  have h2 : (n : Int) * v ≤ (n : Int) * 240 := Int.mul_le_mul_of_nonneg_left hv.2 (by omega)
  rw [Option.map_some, wrap_id (x := (n : Int) * v) (by omega) (by omega), wrap_id (by omega) (by omega)]
theorem runI_wd (l : List UInt8) (s : Int) (n : Nat) (u : UInt8) (v : Int) (ws : List (List UInt8)) (hn : n < 1000000000) (hu : unit u = some v) (h0 : 0 ≤ s) (hs : s ≤ 1000000000000) (hv : 0 ≤ v ∧ v ≤ 240) :
    runI l s (wd n u ++ ws) = runI l (s + (n : Int) * v) ws := by
  unfold wd
  by_cases h : n = 0
  · rw [if_pos h, h]; simp
  · rw [if_neg h]
    show (match stepI s (Lib.decDigits n ++ [u]) with | none => (0, 5) | some s' => runI l s' ws) = _
    rw [wd_step s n u v hn hu h0 hs hv]
def amtW (a : Nat) : List (List UInt8) := if a = 0 then [[48, 100]] else wd (a / 240) 108 ++ (wd (a / 12 % 20) 115 ++ wd (a % 12) 100)
theorem dig_no (n : Nat) (c : UInt8) (hc : isD c = false) : c ∉ Lib.decDigits n := by
  intro h
  have := dec_digs n
  unfold digs at this
  rw [List.all_eq_true] at this
  rw [this c h] at hc
  cases hc
theorem wd_no (n : Nat) (u : UInt8) (hu : u ≠ 32) : ∀ w ∈ wd n u, (32 : UInt8) ∉ w := by
  intro w hw
  unfold wd at hw
  split at hw
  · cases hw
  · simp only [List.mem_singleton] at hw
    subst hw
    simp only [List.mem_append, List.mem_singleton, not_or]
    exact ⟨dig_no n 32 (by decide), fun h => hu h.symm⟩
theorem amtW_words (a : Nat) : words 32 (amtL a) = amtW a := by
  unfold amtL amtW
  by_cases h : a = 0
  · rw [if_pos h, if_pos h]; decide
  · rw [if_neg h, if_neg h, ← join3 a]
    refine words_join 32 _ ?_ ?_
    · unfold wd
      intro e
      have h1 : a / 240 = 0 := by
        by_cases h1 : a / 240 = 0
        · exact h1
        · rw [if_neg h1] at e; simp at e
      have h2 : a / 12 % 20 = 0 := by
        by_cases h2 : a / 12 % 20 = 0
        · exact h2
        · rw [if_neg h2] at e; simp at e
      have h3 : a % 12 = 0 := by
        by_cases h3 : a % 12 = 0
        · exact h3
        · rw [if_neg h3] at e; simp at e
      omega
    · intro w hw
      simp only [List.mem_append] at hw
      rcases hw with hw | hw | hw
      · exact wd_no _ _ (by decide) w hw
      · exact wd_no _ _ (by decide) w hw
      · exact wd_no _ _ (by decide) w hw
theorem amt_sum (a : Nat) : (0 : Int) + ((a / 240 : Nat) : Int) * 240 + ((a / 12 % 20 : Nat) : Int) * 12 + ((a % 12 : Nat) : Int) * 1 = (a : Int) := by omega
theorem amtT_nat (a : Nat) (h : a ≤ 100000000) : amtT (a : Int) = amtL a := by
  unfold amtT
  rw [if_pos (by omega), Int.toNat_natCast]
theorem runI_amt (a : Nat) (h : a ≤ 100000000) : runI (amtL a) 0 (amtW a) = ((a : Int), 0) := by
  have fin : ∀ s : Int, s = (a : Int) → runI (amtL a) s [] = ((a : Int), 0) := by
    rintro s rfl
    unfold runI
    rw [if_pos (amtT_nat a h)]
  unfold amtW
  by_cases h0 : a = 0
  · subst h0
    rw [if_pos rfl]
    show (match stepI 0 ([48] ++ [100]) with | none => (0, 5) | some s' => runI (amtL 0) s' []) = _
    rw [stepI_mk, show numOf 9 [48] = ((0 : Int), true) by decide, if_pos rfl]
    exact fin _ (by show wrap64 (0 + wrap64 ((0 : Int) * 1)) = 0; unfold wrap64; omega)
  · rw [if_neg h0]
    rw [runI_wd _ _ _ _ 240 _ (by omega) rfl (by omega) (by omega) (by omega)]
    rw [runI_wd _ _ _ _ 12 _ (by omega) rfl (by omega) (by omega) (by omega)]
    have := runI_wd (amtL a) ((0 : Int) + ((a / 240 : Nat) : Int) * 240 + ((a / 12 % 20 : Nat) : Int) * 12) (a % 12) 100 1 [] (by omega) rfl (by omega) (by omega) (by omega)
    rw [List.append_nil] at this
    rw [this]
    exact fin _ (amt_sum a)
noncomputable def readA (l : List UInt8) : Option Nat := open Classical in if h : ∃ a : Nat, a ≤ 100000000 ∧ amtL a = l then some h.choose else none
theorem readA_amt (a : Nat) (h : a ≤ 100000000) : readA (amtL a) = some a := by
  have hx : ∃ b : Nat, b ≤ 100000000 ∧ amtL b = amtL a := ⟨a, h, rfl⟩
  unfold readA
  rw [dif_pos hx]
  have h2 := hx.choose_spec
  have e1 := runI_amt hx.choose h2.1
  have e2 := runI_amt a h
  have ew : amtW hx.choose = amtW a := by rw [← amtW_words, ← amtW_words, h2.2]
  rw [h2.2, ew, e2] at e1
  injection e1 with e1
  congr 1
  omega
theorem readA_none (l : List UInt8) (h : ¬ ∃ a : Nat, a ≤ 100000000 ∧ amtL a = l) : readA l = none := by
  unfold readA
  rw [dif_neg h]
def readIO : Option Nat → Int × Int
  | some a => ((a : Int), 0)
  | none => (0, 5)
noncomputable def readI (l : List UInt8) : Int × Int := readIO (readA l)
theorem readI_some {l : List UInt8} {a : Nat} (h : readA l = some a) : readI l = ((a : Int), 0) := by
  unfold readI
  rw [h]
  rfl
theorem readI_none {l : List UInt8} (h : readA l = none) : readI l = (0, 5) := by
  unfold readI
  rw [h]
  rfl
theorem runI_all (l : List UInt8) : runI l 0 (words 32 l) = readI l := by
  by_cases h : ∃ a : Nat, a ≤ 100000000 ∧ amtL a = l
  · obtain ⟨a, ha, rfl⟩ := h
    rw [amtW_words, runI_amt a ha, readI_some (readA_amt a ha)]
  · rw [readI_none (readA_none l h)]
    rcases runI_end l (words 32 l) 0 with e | ⟨s', hs, e⟩
    · exact e
    · exfalso
      unfold amtT at hs
      by_cases hr : 0 ≤ s' ∧ s' ≤ 100000000
      · rw [if_pos hr] at hs
        exact h ⟨s'.toNat, by omega, hs⟩
      · rw [if_neg hr] at hs
        subst hs
        have h5 : runI [] 0 (words 32 []) = (0, 5) := rfl
        rw [h5] at e
        have h6 : (5 : Int) = 0 := congrArg Prod.snd e
        omega
theorem implRead_ev (l : List UInt8) (hl : l.length ≤ 1000000000) : Ev (fun k => impl_ReadAmount.f k (mkB l)) (readI l) := by
  unfold impl_ReadAmount.f
  refine ev_if (fun h => ?_) (fun h => ?_)
  · have : readI l = (0, 5) := by
      refine readI_none (readA_none l ?_)
      rintro ⟨a, ha, rfl⟩
      have := amtL_len a ha
      rw [mkB_size] at h
      omega
    rw [this]; exact Ev.now _
  · have hs : strings_Split.f (mkB l) (⟨#[32]⟩ : ByteArray) = some ((words 32 l).map mkB) := by
      unfold strings_Split.f
      rw [if_pos ⟨by rw [mkB_size]; omega, by decide⟩]
      congr 1
      exact splitB_words 32 l
    refine ev_bind0 hs ?_
    have hn := words_len 32 l
    rw [List.length_map]
    rw [← runI_all l]
    exact loopRI l (words 32 l) (by omega) (fun w hw => by have := words_each 32 l w hw; omega)
end Go.Proofs.YtfjmljgbdejghaaDoor.PuReadNets
-- a text of this session, cut down for this claim
namespace Go.Proofs.YtfjmljgbdejghaaDoor.PuRDebtNets
open Go.RowKit Go.Proofs.YtfjmljgbdejghaaDoor.MNets Go.Proofs.YtfjmljgbdejghaaDoorW.PrintWords Go.Proofs.YtfjmljgbdejghaaDoorW.PrintLast Go.Proofs.YtfjmljgbdejghaaDoor.Evs Go.Proofs.YtfjmljgbdejghaaDoor.PuDebtNets Go.Proofs.YtfjmljgbdejghaaDoor.PuSumNetsNets Go.Proofs.YtfjmljgbdejghaaDoor.PuBytNets Go.Proofs.YtfjmljgbdejghaaDoor.PuWordsNets Go.Proofs.YtfjmljgbdejghaaDoor.PuNumNets Go.Proofs.YtfjmljgbdejghaaDoor.PuAmtNets Go.Proofs.YtfjmljgbdejghaaDoor.PuReadNets
set_option linter.unusedVariables false
set_option linter.unusedSimpArgs false
theorem valF_ge : ∀ (w : List UInt8) (n : Nat), n * 10 ^ w.length ≤ valF n w
  | [], n => by simp [valF]
  | b :: w, n => by
    show _ ≤ valF (10 * n + (b.toNat - 48)) w
    have := valF_ge w (10 * n + (b.toNat - 48))
    have h2 : n * 10 ^ (b :: w).length = (10 * n) * 10 ^ w.length := by rw [List.length_cons, Nat.pow_succ]; rw [Nat.mul_comm 10 n, Nat.mul_assoc, Nat.mul_comm 10]
    rw [h2]
    exact Nat.le_trans (Nat.mul_le_mul_right _ (by omega)) this
theorem num_9_10 (w : List UInt8) (h : (numOf 9 w).2 = true) : numOf 10 w = numOf 9 w := by
  unfold numOf at h ⊢
  by_cases h1 : w = [] ∨ 9 < w.length ∨ (w.head? = some 48 ∧ 1 < w.length)
  · rw [if_pos h1] at h; cases h
  · rw [if_neg h1, if_neg]
    rintro (h2 | h2 | h2)
    · exact h1 (.inl h2)
    · exact h1 (.inr (.inl (by omega)))
    · exact h1 (.inr (.inr h2))
theorem num_big (w : List UInt8) (h : (numOf 9 w).2 = false) (h2 : (numOf 10 w).2 = true) : 1000000000 ≤ (numOf 10 w).1 := by
  unfold numOf at h h2 ⊢
  by_cases h1 : w = [] ∨ 10 < w.length ∨ (w.head? = some 48 ∧ 1 < w.length)
  · rw [if_pos h1] at h2; cases h2
  rw [if_neg h1] at h2 ⊢
  by_cases hd : digs w = true
  · rw [if_pos hd]
    by_cases h9 : w = [] ∨ 9 < w.length ∨ (w.head? = some 48 ∧ 1 < w.length)
    · rcases h9 with h9 | h9 | h9
      · exact absurd (.inl h9) h1
      · cases w with
        | nil => simp at h9
        | cons b t =>
          have hb : digs (b :: t) = true := hd
          simp only [digs, List.all_cons, Bool.and_eq_true] at hb
          have hb2 : 48 ≤ b.toNat ∧ b.toNat ≤ 57 := by simpa [isD] using hb.1
          have hne : b.toNat ≠ 48 := fun e => h1 (.inr (.inr ⟨by
            have : b = 48 := UInt8.toNat_inj.1 (by have h48 : (48 : UInt8).toNat = 48 := rfl; omega)
            rw [this]; rfl, by omega⟩))
          have hv := valF_ge t (10 * 0 + (b.toNat - 48))
          have hp : 10 ^ 9 ≤ 10 ^ t.length := Nat.pow_le_pow_right (by omega) (by simp at h9; omega)
          have hm : 1 * 10 ^ t.length ≤ (10 * 0 + (b.toNat - 48)) * 10 ^ t.length := Nat.mul_le_mul_right _ (by omega)
          have : valF 0 (b :: t) = valF (10 * 0 + (b.toNat - 48)) t := rfl
          show (1000000000 : Int) ≤ ((valF 0 (b :: t) : Nat) : Int)
          rw [this]
          omega
      · exact absurd (.inr (.inr h9)) h1
    · rw [if_neg h9, if_pos hd] at h; cases h
  · rw [if_neg hd] at h2; cases h2
theorem cut3 (c : UInt8) : ∀ (n : Nat) (l : List UInt8), (words c l = [l] ∧ ∀ m, Lib.splitK [c] 0 m l = [l]) ∨ (∃ i, i < l.length ∧ words c l = l.take i :: words c (l.drop (i + 1)) ∧ ∀ m, Lib.splitK [c] 0 (m + 1) l = l.take i :: Lib.splitK [c] 0 m (l.drop (i + 1))) := by
  intro _ l
  have hge := Lib.index_ge l [c]
  by_cases h : Lib.index l [c] = -1
  · refine .inl ⟨?_, ?_⟩
    · rw [Lib.index_one] at h
      have hno := Lib.indexByte_none h
      exact words_none (fun hm => by
        obtain ⟨k, hk⟩ := List.getElem?_of_mem hm
        exact hno k hk)
    · intro m
      cases m with
      | zero => rfl
      | succ m => rw [Lib.splitK, if_pos (by rw [beq_iff_eq]; exact h)]
  · obtain ⟨i, hi⟩ : ∃ i : Nat, Lib.index l [c] = (i : Int) := ⟨(Lib.index l [c]).toNat, by omega⟩
    have hi' := hi
    rw [Lib.index_one] at hi'
    obtain ⟨h1, h2⟩ := Lib.indexByte_some hi'
    have hlt : i < l.length := by
      rcases Nat.lt_or_ge i l.length with h | h
      · exact h
      · rw [List.getElem?_eq_none h] at h1; cases h1
    refine .inr ⟨i, hlt, ?_, ?_⟩
    · have hd : l.drop i = c :: l.drop (i + 1) := by
        rw [List.drop_eq_getElem_cons hlt]
        rw [List.getElem?_eq_getElem hlt] at h1
        injection h1 with h1
        rw [h1]
      have e : l = l.take i ++ c :: l.drop (i + 1) := by rw [← hd, List.take_append_drop]
      have hno : c ∉ l.take i := fun hm => by
        obtain ⟨k, hk⟩ := List.getElem?_of_mem hm
        have hki : k < i := by
          rcases Nat.lt_or_ge k i with h | h
          · exact h
          · rw [List.getElem?_take, if_neg (by omega)] at hk; cases hk
        rw [List.getElem?_take, if_pos hki] at hk
        exact h2 k hki hk
      conv => lhs; rw [e]
      exact words_hit _ hno
    · intro m
      rw [Lib.splitK, if_neg (by rw [beq_iff_eq]; exact h), hi]
      simp only [Int.toNat_natCast, Nat.add_zero, List.length_singleton]
theorem words_pos (c : UInt8) (l : List UInt8) : 1 ≤ (words c l).length := List.length_pos_iff.2 (words_ne c l)
theorem three (c : UInt8) (l : List UInt8) :
    ((words c l).length < 3 ∧ (Lib.splitK [c] 0 (min 3 (l.length + 1) - 1) l).length < 3) ∨
    (∃ w0 w1 ws, w0.length + w1.length + 2 ≤ l.length ∧ words c l = w0 :: w1 :: ws ∧ ws ≠ [] ∧ Lib.splitK [c] 0 (min 3 (l.length + 1) - 1) l = [w0, w1, l.drop (w0.length + w1.length + 2)]) := by
  by_cases hs : l.length < 2
  · left
    have := words_len c l
    refine ⟨by omega, ?_⟩
    rcases cut3 c 0 l with ⟨_, h2⟩ | ⟨i, hi, h1, h2⟩
    · rw [h2]; simp
    · have : min 3 (l.length + 1) - 1 = 0 + 1 := by omega
      rw [this, h2]
      simp [Lib.splitK]
  rw [show min 3 (l.length + 1) - 1 = 1 + 1 by omega]
  rcases cut3 c 0 l with ⟨h1, h2⟩ | ⟨i, hi, h1, h2⟩
  · left; rw [h1, h2]; simp
  rcases cut3 c 0 (l.drop (i + 1)) with ⟨g1, g2⟩ | ⟨j, hj, g1, g2⟩
  · left; rw [h1, h2, g1, g2]; simp
  right
  rw [List.length_drop] at hj
  refine ⟨l.take i, (l.drop (i + 1)).take j, words c ((l.drop (i + 1)).drop (j + 1)), ?_, ?_, words_ne _ _, ?_⟩
  · rw [List.length_take, List.length_take, List.length_drop]; omega
  · rw [h1, g1]
  · rw [h2, show (1 : Nat) = 0 + 1 from rfl, g2]
    simp only [Lib.splitK, List.drop_drop]
    congr 3
    rw [List.length_take, List.length_take, List.length_drop]
    congr 1
    omega
theorem splitN_f (l : List UInt8) (hl : l.length ≤ 1000000000) : strings_SplitN.f (mkB l) (⟨#[32]⟩ : ByteArray) 3 = some ((Lib.splitK [32] 0 (min 3 (l.length + 1) - 1) l).map mkB) := by
  unfold strings_SplitN.f
  rw [if_pos ⟨by rw [mkB_size]; omega, by decide, by decide, by decide⟩]
  congr 1
  have h := Lib.splitB_data (mkB [32]) 0 (min 3 (l.length + 1) - 1) (mkB l)
  rw [mkB_data, mkB_data] at h
  rw [← h, List.map_map]
  have : (mkB ∘ fun x : ByteArray => x.data.toList) = id := by funext x; exact mkB_of x
  rw [this, List.map_id, mkB_size]
  rfl
noncomputable def lineP (m : Nat) (l : List UInt8) : Option D :=
  if (words 32 l).length < 3 then none else
  let w0 := (words 32 l).getD 0 []
  let w1 := (words 32 l).getD 1 []
  if (numOf m w0).2 = true ∧ (numOf m w1).2 = true then (readA (l.drop (w0.length + w1.length + 2))).map fun a : Nat => (⟨(numOf m w0).1, (numOf m w1).1, (a : Int)⟩ : D) else none
theorem lineP_three (m : Nat) {l w0 w1 : List UInt8} {ws : List (List UInt8)} (h : words 32 l = w0 :: w1 :: ws) (hw : ws ≠ []) :
    lineP m l = if (numOf m w0).2 = true ∧ (numOf m w1).2 = true then (readA (l.drop (w0.length + w1.length + 2))).map fun a : Nat => (⟨(numOf m w0).1, (numOf m w1).1, (a : Int)⟩ : D) else none := by
  unfold lineP
  rw [h, if_neg (by have := List.length_pos_iff.2 hw; simp; omega)]
  simp only [List.getD_cons_zero, List.getD_cons_succ]
theorem lineP_9 (l : List UInt8) : lineP 9 l = lineP 10 l ∨ (lineP 9 l = none ∧ ∃ d, lineP 10 l = some d ∧ okD 16 d = false) := by
  rcases three 32 l with ⟨h, _⟩ | ⟨w0, w1, ws, _, h, hw, _⟩
  · left; unfold lineP; rw [if_pos h, if_pos h]
  rw [lineP_three 9 h hw, lineP_three 10 h hw]
  by_cases h10 : (numOf 10 w0).2 = true ∧ (numOf 10 w1).2 = true
  · by_cases h9 : (numOf 9 w0).2 = true ∧ (numOf 9 w1).2 = true
    · left; rw [if_pos h9, if_pos h10, num_9_10 _ h9.1, num_9_10 _ h9.2]
    · rw [if_neg h9, if_pos h10]
      cases readA (l.drop (w0.length + w1.length + 2)) with
      | none => left; rfl
      | some a =>
        right
        refine ⟨rfl, _, rfl, okD_false ?_⟩
        rintro ⟨q1, q2, q3, q4, _⟩
        dsimp only at q1 q2 q3 q4
        cases e0 : (numOf 9 w0).2 with
        | false => have := num_big w0 e0 h10.1; omega
        | true =>
          cases e1 : (numOf 9 w1).2 with
          | false => have := num_big w1 e1 h10.2; omega
          | true => exact h9 ⟨e0, e1⟩
  · left
    rw [if_neg h10, if_neg]
    rintro ⟨q0, q1⟩
    exact h10 ⟨by rw [num_9_10 _ q0]; exact q0, by rw [num_9_10 _ q1]; exact q1⟩
noncomputable def goR (m : Nat) : List D → List (List UInt8) → List D × Int
  | acc, [] => if valid 16 acc = true then (acc, 0) else ([], 5)
  | acc, l :: ls => match lineP m l with | none => ([], 5) | some d => goR m (acc ++ [d]) ls
theorem goR_bad : ∀ (ls : List (List UInt8)) (acc : List D), (∃ d ∈ acc, okD 16 d = false) → goR 10 acc ls = ([], 5)
  | [], acc, ⟨d, hd, h⟩ => by
    unfold goR
    rw [if_neg]
    intro hv
    unfold valid at hv
    simp only [Bool.and_eq_true, List.all_eq_true] at hv
    rw [hv.2 d hd] at h; cases h
  | l :: ls, acc, ⟨d, hd, h⟩ => by
    show (match lineP 10 l with | none => ([], 5) | some d => goR 10 (acc ++ [d]) ls) = _
    cases lineP 10 l with
    | none => rfl
    | some e => exact goR_bad ls _ ⟨d, by simp [hd], h⟩
theorem goR_long : ∀ (ls : List (List UInt8)) (acc : List D), 60 < acc.length + ls.length → goR 10 acc ls = ([], 5)
  | [], acc, h => by
    unfold goR
    rw [if_neg]
    intro hv
    have := (valid_bd hv).2.2.1
    simp at h; omega
  | l :: ls, acc, h => by
    show (match lineP 10 l with | none => ([], 5) | some d => goR 10 (acc ++ [d]) ls) = _
    cases lineP 10 l with
    | none => rfl
    | some e => exact goR_long ls _ (by simp at h ⊢; omega)
theorem goR_9 : ∀ (ls : List (List UInt8)) (acc : List D), goR 9 acc ls = goR 10 acc ls
  | [], acc => rfl
  | l :: ls, acc => by
    show (match lineP 9 l with | none => ([], 5) | some d => goR 9 (acc ++ [d]) ls) = (match lineP 10 l with | none => ([], 5) | some d => goR 10 (acc ++ [d]) ls)
    rcases lineP_9 l with e | ⟨e, d, e2, hd⟩
    · rw [e]
      cases lineP 10 l with
      | none => rfl
      | some d => exact goR_9 ls _
    · rw [e, e2]
      exact (goR_bad ls _ ⟨d, by simp, hd⟩).symm
def linesL (l : List UInt8) : List (List UInt8) := (words 10 l).dropLast
def lastL (l : List UInt8) : List UInt8 := (words 10 l).getLast (words_ne 10 l)
noncomputable def readD (l : List UInt8) : List D × Int := if lastL l = [] then goR 9 [] (linesL l) else ([], 5)
theorem lastB2 (l : List UInt8) (hl : (words 10 l).length ≤ 4000000000) : rdOf ByteArray.empty ((words 10 l).map mkB) (((words 10 l).length : Int) - 1) = mkB (lastL l) := by
  have hp := words_pos 10 l
  rw [show (((words 10 l).length : Int) - 1) = (((words 10 l).length - 1 : Nat) : Int) by omega, rdOf_mk _ _ (by omega)]
  unfold lastL
  rw [List.getLast_eq_getElem]
theorem lines_f (l : List UInt8) (hl : l.length ≤ 1000000000) : impl_linesOf.f (mkB l) = some ((linesL l).map mkB, decide (lastL l = [])) := by
  unfold impl_linesOf.f
  rw [mkB_toList]
  by_cases h : l = []
  · subst h; rfl
  rw [if_neg h]
  have hs : strings_Split.f (mkB l) (⟨#[10]⟩ : ByteArray) = some ((words 10 l).map mkB) := by
    unfold strings_Split.f
    rw [if_pos ⟨by rw [mkB_size]; omega, by decide⟩]
    congr 1
    exact splitB_words 10 l
  rw [hs, Option.bind_some, List.length_map]
  have hp := words_pos 10 l
  have hn := words_len 10 l
  rw [wrap_id (by omega) (by omega), if_pos (by omega), if_pos (by omega), if_pos (by omega), lastB2 l (by omega), mkB_toList]
  congr 1
  have e1 : ((words 10 l).map mkB).take (((words 10 l).length : Int) - 1).toNat = (linesL l).map mkB := by
    unfold linesL
    rw [List.dropLast_eq_take, List.map_take, show (((words 10 l).length : Int) - 1).toNat = (words 10 l).length - 1 by omega]
  rw [e1]
  congr 1
  by_cases he : lastL l = []
  · rw [decide_eq_true he]; simpa using he
  · rw [decide_eq_false he]; simpa using he
theorem loopDI (ls : List (List UInt8)) (hn : ls.length ≤ 60) (hw : ∀ w ∈ ls, w.length ≤ 1000000000) :
    Ev (fun k => impl_ReadDebts.l0 k [] (ls.map mkB) (ls.length : Int) 0) (goR 9 [] ls) := by
  have key := ev_forI (σ := List D) (n := ls.length) (G := fun k s i => impl_ReadDebts.l0 k s (ls.map mkB) (ls.length : Int) i) (F := fun s i => goR 9 s (ls.drop i)) (I := fun s i => s.length ≤ i) ?_ ?_ 0 (by omega) [] (by simp)
  · exact key
  · intro i hi ih s hs
    refine Ev.step (fun k => by simp only [impl_ReadDebts.l0]; rfl) ?_
    refine ev_pos (by omega) (ev_pos (by omega) (ev_pos (by rw [List.length_map]; omega) ?_))
    rw [rdOf_mk ls i hi, List.drop_eq_getElem_cons hi, wrap_up hi (by omega)]
    have hlen := hw _ (List.getElem_mem hi)
    show Ev _ (match lineP 9 ls[i] with | none => ([], 5) | some d => goR 9 (s ++ [d]) (ls.drop (i + 1)))
    generalize ls[i] = w at hlen ⊢
    refine ev_bind0 (splitN_f w hlen) ?_
    rcases three 32 w with ⟨h, h'⟩ | ⟨w0, w1, ws, hle, h, hws, h'⟩
    · have : lineP 9 w = none := by unfold lineP; rw [if_pos h]
      rw [this]
      exact ev_pos (by rw [List.length_map]; omega) (Ev.now _)
    rw [h', lineP_three 9 h hws]
    have r0 := rdOf_mk [w0, w1, w.drop (w0.length + w1.length + 2)] 0 (by simp)
    have r1 := rdOf_mk [w0, w1, w.drop (w0.length + w1.length + 2)] 1 (by simp)
    have r2 := rdOf_mk [w0, w1, w.drop (w0.length + w1.length + 2)] 2 (by simp)
    simp only [List.getElem_cons_zero, List.getElem_cons_succ] at r0 r1 r2
    have r0' : rdOf ByteArray.empty ([w0, w1, w.drop (w0.length + w1.length + 2)].map mkB) 0 = mkB w0 := r0
    have r1' : rdOf ByteArray.empty ([w0, w1, w.drop (w0.length + w1.length + 2)].map mkB) 1 = mkB w1 := r1
    have r2' : rdOf ByteArray.empty ([w0, w1, w.drop (w0.length + w1.length + 2)].map mkB) 2 = mkB (w.drop (w0.length + w1.length + 2)) := r2
    rw [r0', r1', r2', List.length_map]
    refine ev_neg (by simp) (ev_pos (by simp) (Ev.bind (numI_ev w0) (ev_pos (by simp) (Ev.bind (numI_ev w1) (ev_pos (by simp) (Ev.bind (implRead_ev _ (by rw [List.length_drop]; omega)) ?_))))))
    by_cases h1 : (numOf 9 w0).2 = true
    · refine ev_pos h1 ?_
      by_cases h2 : (numOf 9 w1).2 = true
      · refine ev_pos h2 ?_
        rw [if_pos ⟨h1, h2⟩]
        cases ha : readA (w.drop (w0.length + w1.length + 2)) with
        | none =>
          rw [readI_none ha]
          exact ev_neg (by decide) (Ev.now _)
        | some a =>
          rw [readI_some ha]
          refine ev_pos rfl (ev_pos (by omega) ?_)
          exact ih _ (by simp; omega)
      · refine ev_neg h2 ?_
        rw [if_neg (fun h => h2 h.2)]
        exact Ev.now _
    · refine ev_neg h1 ?_
      rw [if_neg (fun h => h1 h.1)]
      exact Ev.now _
  · intro s hs
    refine Ev.step (fun k => by simp only [impl_ReadDebts.l0]; rfl) ?_
    refine ev_neg (by omega) ?_
    rw [List.drop_length]
    refine Ev.bind (ValidI_ev 16 s (by unfold maxLen; omega)) ?_
    show Ev _ (if valid 16 s = true then (s, 0) else ([], 5))
    refine ev_if (fun h => ?_) (fun h => ?_)
    · rw [if_pos h]; exact Ev.now _
    · rw [if_neg h]; exact Ev.now _
theorem words_mem_len {l w : List UInt8} (h : w ∈ linesL l) : w.length ≤ l.length := words_each 10 l w (List.dropLast_subset _ h)
theorem RDebtI_ev (l : List UInt8) (hl : l.length ≤ 1000000000) : Ev (fun k => impl_ReadDebts.f k (mkB l)) (readD l) := by
  unfold impl_ReadDebts.f readD
  refine ev_bind0 (lines_f l hl) ?_
  have stop : ∀ x : List ByteArray, Ev (fun k => impl_ReadDebts.j0 k x true) (([] : List D), (5 : Int)) := fun x => Ev.step (fun k => rfl) (Ev.now _)
  by_cases h : lastL l = []
  · refine ev_pos (decide_eq_true h) ?_
    rw [if_pos h]
    dsimp only
    rw [List.length_map]
    by_cases h60 : ((linesL l).length : Int) > 60
    · rw [decide_eq_true h60, goR_9, goR_long _ _ (by simp; omega)]
      exact stop _
    · rw [decide_eq_false h60]
      refine Ev.step (fun k => by simp only [impl_ReadDebts.j0]; rfl) ?_
      refine ev_neg (by decide) ?_
      rw [List.length_map]
      exact loopDI (linesL l) (by omega) (fun w hw => by have := words_mem_len hw; omega)
  · refine ev_neg (fun e => h (of_decide_eq_true e)) ?_
    rw [if_neg h]
    exact stop _
end Go.Proofs.YtfjmljgbdejghaaDoor.PuRDebtNets
-- a text of this session, cut down for this claim
namespace Go.Proofs.YtfjmljgbdejghaaDoor.PuRTripNets
open Go.RowKit Go.Proofs.YtfjmljgbdejghaaDoor.MNets Go.Proofs.YtfjmljgbdejghaaDoorW.PrintWords Go.Proofs.YtfjmljgbdejghaaDoorW.PrintLast Go.Proofs.YtfjmljgbdejghaaDoor.Evs Go.Proofs.YtfjmljgbdejghaaDoor.PuDebtNets Go.Proofs.YtfjmljgbdejghaaDoor.PuSumNetsNets Go.Proofs.YtfjmljgbdejghaaDoor.PuBytNets Go.Proofs.YtfjmljgbdejghaaDoor.PuWordsNets Go.Proofs.YtfjmljgbdejghaaDoor.PuNumNets Go.Proofs.YtfjmljgbdejghaaDoor.PuAmtNets Go.Proofs.YtfjmljgbdejghaaDoor.PuReadNets Go.Proofs.YtfjmljgbdejghaaDoor.PuDTextNets Go.Proofs.YtfjmljgbdejghaaDoor.PuRDebtNets
set_option linter.unusedVariables false
set_option linter.unusedSimpArgs false
theorem part_all (P : UInt8 → Prop) (h32 : P 32) (hd : ∀ n : Nat, ∀ b ∈ Lib.decDigits n, P b) (out : List UInt8) (n : Nat) (u : UInt8) (hu : P u) (ho : ∀ b ∈ out, P b) : ∀ b ∈ PuAmtNets.part out n u, P b := by
  intro b hb
  unfold PuAmtNets.part at hb
  split at hb
  · exact ho b hb
  · simp only [List.mem_append, List.mem_singleton] at hb
    rcases hb with (hb | hb) | hb
    · split at hb
      · cases hb
      · rcases List.mem_append.1 hb with hb | hb
        · exact ho b hb
        · simp only [List.mem_singleton] at hb; rw [hb]; exact h32
    · exact hd n b hb
    · rw [hb]; exact hu
theorem amtL_no (a : Nat) : (10 : UInt8) ∉ amtL a := by
  have hd : ∀ n : Nat, ∀ b ∈ Lib.decDigits n, b ≠ (10 : UInt8) := fun n b hb e => dig_no n 10 (by decide) (e ▸ hb)
  have key : ∀ b ∈ amtL a, b ≠ (10 : UInt8) := by
    unfold amtL
    split
    · intro b hb
      simp only [List.mem_cons, List.mem_singleton, List.not_mem_nil, or_false] at hb
      rcases hb with rfl | rfl <;> decide
    · unfold amtP
      refine part_all (fun b : UInt8 => b ≠ 10) (by decide) hd _ _ _ (by decide) ?_
      refine part_all (fun b : UInt8 => b ≠ 10) (by decide) hd _ _ _ (by decide) ?_
      refine part_all (fun b : UInt8 => b ≠ 10) (by decide) hd _ _ _ (by decide) ?_
      simp
  exact fun h => key 10 h rfl
def body (d : D) : List UInt8 := Lib.decDigits d.f0.toNat ++ 32 :: (Lib.decDigits d.f1.toNat ++ 32 :: amtL d.f2.toNat)
theorem lineL_body (d : D) : lineL d = body d ++ [10] := by
  unfold lineL lineN body
  simp
theorem body_no (d : D) : (10 : UInt8) ∉ body d := by
  unfold body
  simp only [List.mem_append, List.mem_cons, not_or]
  exact ⟨dig_no _ 10 (by decide), by decide, dig_no _ 10 (by decide), by decide, amtL_no _⟩
theorem words_text : ∀ l : List D, words 10 (dtext l) = l.map body ++ [[]]
  | [] => rfl
  | d :: l => by
    have e : dtext (d :: l) = body d ++ 10 :: dtext l := by
      show lineL d ++ dtext l = _
      rw [lineL_body, List.append_assoc]; rfl
    rw [e, words_hit _ (body_no d), words_text l]
    rfl
theorem lineP_body (d : D) (h : okD 16 d = true) : lineP 9 (body d) = some d := by
  have hd := of_decide_eq_true h
  have w : words 32 (body d) = Lib.decDigits d.f0.toNat :: Lib.decDigits d.f1.toNat :: words 32 (amtL d.f2.toNat) := by
    unfold body
    rw [words_hit _ (dig_no _ 32 (by decide)), words_hit _ (dig_no _ 32 (by decide))]
  rw [lineP_three 9 w (words_ne _ _)]
  have l0 := dec_len 1 d.f0.toNat (by omega)
  have l1 := dec_len 1 d.f1.toNat (by omega)
  rw [num_dec 9 _ (by omega), num_dec 9 _ (by omega), if_pos ⟨rfl, rfl⟩]
  have hdr : (body d).drop ((Lib.decDigits d.f0.toNat).length + (Lib.decDigits d.f1.toNat).length + 2) = amtL d.f2.toNat := by
    unfold body
    rw [show (Lib.decDigits d.f0.toNat).length + (Lib.decDigits d.f1.toNat).length + 2 = (Lib.decDigits d.f0.toNat).length + ((Lib.decDigits d.f1.toNat).length + 1 + 1) by omega, ← List.drop_drop, List.drop_left]
    rw [List.drop_succ_cons, ← List.drop_drop, List.drop_left]
    rfl
  rw [hdr, readA_amt _ (by omega)]
  show some _ = some d
  congr 1
  exact D.ext (by show ((d.f0.toNat : Nat) : Int) = d.f0; omega) (by show ((d.f1.toNat : Nat) : Int) = d.f1; omega) (by show ((d.f2.toNat : Nat) : Int) = d.f2; omega)
theorem goR_text : ∀ (l acc : List D), valid 16 (acc ++ l) = true → (∀ d ∈ l, okD 16 d = true) → goR 9 acc (l.map body) = (acc ++ l, 0)
  | [], acc, h, _ => by
    rw [List.append_nil] at h ⊢
    show (if valid 16 acc = true then (acc, (0 : Int)) else ([], 5)) = _
    rw [if_pos h]
  | d :: l, acc, h, hd => by
    show (match lineP 9 (body d) with | none => ([], (5 : Int)) | some d => goR 9 (acc ++ [d]) (l.map body)) = _
    rw [lineP_body d (hd d (by simp))]
    show goR 9 (acc ++ [d]) (l.map body) = _
    rw [goR_text l (acc ++ [d]) (by rw [List.append_assoc]; exact h) (fun z hz => hd z (by simp [hz])), List.append_assoc]
    rfl
theorem round_trip (l : List D) (hv : valid 16 l = true) : readD (dtextR l) = (l, 0) := by
  unfold dtextR
  rw [if_pos hv]
  have hw := words_text l
  have hl : linesL (dtext l) = l.map body := by
    unfold linesL
    rw [hw]
    simp
  have hlast : lastL (dtext l) = [] := by
    unfold lastL
    simp only [hw]
    simp
  unfold readD
  rw [if_pos hlast, hl]
  have hd : ∀ d ∈ l, okD 16 d = true := by
    intro d hd
    unfold valid at hv
    simp only [Bool.and_eq_true, List.all_eq_true] at hv
    exact hv.2 d hd
  have := goR_text l [] (by rw [List.nil_append]; exact hv) hd
  rw [this]; rfl
theorem dtext_len : ∀ (l : List D), (∀ d ∈ l, okD 16 d = true) → (dtext l).length ≤ 100 * l.length
  | [], _ => by simp [dtext]
  | d :: l, h => by
    have hd := of_decide_eq_true (h d (by simp))
    have h1 := lineN_len d.f0.toNat d.f1.toNat d.f2.toNat (by omega) (by omega) (by omega)
    have h2 := dtext_len l (fun z hz => h z (by simp [hz]))
    have e : dtext (d :: l) = lineL d ++ dtext l := rfl
    rw [e, List.length_append, List.length_cons]
    have : (lineL d).length ≤ 100 := h1
    omega
end Go.Proofs.YtfjmljgbdejghaaDoor.PuRTripNets
