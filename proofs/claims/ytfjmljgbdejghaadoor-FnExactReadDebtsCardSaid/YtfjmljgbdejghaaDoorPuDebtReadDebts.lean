/- Lists of debts: their sizes, copies, equality and validity, as functions of this program come to them. -/
import Derived.Test.YtfjmljgbdejghaaDoorMReadDebtsx0
import Derived.Test.YtfjmljgbdejghaaDoorMReadDebtsx1
import Derived.Test.YtfjmljgbdejghaaDoorMReadDebtsx2
import Derived.Test.YtfjmljgbdejghaaDoorMReadDebtsx3
import Derived.Test.YtfjmljgbdejghaaDoorMReadDebtsx4
import Derived.Test.YtfjmljgbdejghaaDoorMReadDebtsx7
import Derived.Test.YtfjmljgbdejghaaDoorVReadDebtsEv
namespace Go.Proofs.YtfjmljgbdejghaaDoor.PuDebtReadDebts
open Go.RowKit Go.Proofs.YtfjmljgbdejghaaDoor.MReadDebts Go.Proofs.YtfjmljgbdejghaaDoorW.PrintWords Go.Proofs.YtfjmljgbdejghaaDoorW.PrintLast Go.Proofs.YtfjmljgbdejghaaDoor.Evs
set_option linter.unusedVariables false
set_option linter.unusedSimpArgs false
abbrev D := S77
noncomputable def dec (p : Prop) : Bool := @decide p (Classical.propDecidable p)
theorem dec_true {p : Prop} (h : p) : dec p = true := by unfold dec; exact @decide_eq_true p (Classical.propDecidable p) h
theorem dec_false {p : Prop} (h : ¬ p) : dec p = false := by unfold dec; exact @decide_eq_false p (Classical.propDecidable p) h
theorem D.ext {a b : D} (h0 : a.f0 = b.f0) (h1 : a.f1 = b.f1) (h2 : a.f2 = b.f2) : a = b := by
  cases a; cases b; simp_all
theorem rdD (l : List D) (i : Nat) (h : i < l.length) : rd_T77 l (i : Int) = l[i] := getD_lt l _ i h

theorem eqS_refl (a : List D) (h : a.length ≤ maxLen) : Ev (fun k => laws_eqDebtS.f k a a) true := by
  unfold laws_eqDebtS.f
  unfold maxLen at h
  refine ev_pos rfl ?_
  have key : ∀ i : Nat, i ≤ a.length → ∀ _ : Unit, Ev (fun k => laws_eqDebtS.l0 k a a (i : Int)) true :=
    fun i hi => ev_for (n := a.length) (G := fun k (_ : Unit) i => laws_eqDebtS.l0 k a a i) (F := fun _ _ => true) (fun i hi ih _ => by
      refine Ev.step (fun k => ?_) (ih ())
      simp only [laws_eqDebtS.l0]
      rw [if_pos (by omega), if_pos (by omega), if_pos (by omega), wrap_up hi (by omega)]
      simp [laws_eqDebt.f]) (fun _ => by
      refine Ev.step (f := fun _ => some true) (fun k => ?_) (Ev.now _)
      simp only [laws_eqDebtS.l0]
      rw [if_neg (by omega)]) i hi
  exact key 0 (by omega) ()

/-- valid debts -/
def okD (p : Int) (d : D) : Bool := decide (0 ≤ d.f0 ∧ d.f0 < p ∧ 0 ≤ d.f1 ∧ d.f1 < p ∧ d.f0 ≠ d.f1 ∧ 1 ≤ d.f2 ∧ d.f2 ≤ 100000000)
def valid (p : Int) (l : List D) : Bool := decide (1 ≤ p ∧ p ≤ 16 ∧ l.length ≤ 60) && l.all (okD p)
theorem all_drop {α : Type} (f : α → Bool) (l : List α) (i : Nat) (h : i < l.length) : (l.drop i).all f = (f l[i] && (l.drop (i + 1)).all f) := by
  rw [List.drop_eq_getElem_cons h]; rfl
theorem okD_true {p : Int} {d : D} (h : 0 ≤ d.f0 ∧ d.f0 < p ∧ 0 ≤ d.f1 ∧ d.f1 < p ∧ d.f0 ≠ d.f1 ∧ 1 ≤ d.f2 ∧ d.f2 ≤ 100000000) : okD p d = true := decide_eq_true h
theorem okD_false {p : Int} {d : D} (h : ¬ (0 ≤ d.f0 ∧ d.f0 < p ∧ 0 ≤ d.f1 ∧ d.f1 < p ∧ d.f0 ≠ d.f1 ∧ 1 ≤ d.f2 ∧ d.f2 ≤ 100000000)) : okD p d = false := decide_eq_false h
theorem l00In_f (a b c : Int) : spec_l00In.f a b c = some (decide (b ≤ a ∧ a ≤ c)) := by
  unfold spec_l00In.f
  by_cases h : a ≥ b
  · rw [if_pos h]; congr 1; simp [show b ≤ a from h]
  · rw [if_neg h]; congr 1; simp [show ¬ b ≤ a from h]

theorem l02Person_f (p a : Int) (h : 1 ≤ p) (h2 : p ≤ 16) : spec_l02Person.f p a = some (decide (0 ≤ a ∧ a < p)) := by
  unfold spec_l02Person.f
  rw [wrap_id (by omega) (by omega), l00In_f]
  simp only [Option.bind_some]
  congr 1
  rw [decide_eq_decide]
  omega

theorem l02Ok_ev (p : Int) (l : List D) (hl : l.length ≤ maxLen) : Ev (fun k => spec_l02Ok.f k p l) (valid p l) := by
  unfold spec_l02Ok.f valid
  unfold maxLen at hl
  rw [l00In_f]
  by_cases hp : 1 ≤ p ∧ p ≤ 16
  · refine ev_bind0 rfl (ev_pos (by simpa using hp) ?_)
    by_cases h60 : l.length ≤ 60
    · have key := fun (i : Nat) (hi : i ≤ l.length) => ev_for (n := l.length) (G := fun k (_ : Unit) i => spec_l02Ok.l0 k p l i) (F := fun _ i => (l.drop i).all (okD p)) (fun i hi ih _ => by
        rw [all_drop _ _ _ hi]
        have hS : ∀ k, spec_l02Ok.l0 (k + 1) p l (i : Int) = if okD p l[i] = true then spec_l02Ok.l0 k p l ((i : Int) + 1) else some false := by
          intro k
          simp only [spec_l02Ok.l0]
          rw [if_pos (by omega), if_pos (by omega), rdD l i hi, l02Person_f _ _ hp.1 hp.2, l02Person_f _ _ hp.1 hp.2, l00In_f, wrap_up hi (by omega)]
          simp only [Option.bind_some, decide_eq_true_eq, okD]
          by_cases h1 : 0 ≤ l[i].f0 ∧ l[i].f0 < p
          · by_cases h2 : 0 ≤ l[i].f1 ∧ l[i].f1 < p
            · by_cases h3 : l[i].f0 = l[i].f1
              · rw [if_pos h1, if_pos h2, if_pos h3, if_neg (by omega)]
              · by_cases h4 : 1 ≤ l[i].f2 ∧ l[i].f2 ≤ 100000000
                · rw [if_pos h1, if_pos h2, if_neg h3, if_pos h4, if_pos (by omega)]
                · rw [if_pos h1, if_pos h2, if_neg h3, if_neg h4, if_neg (by omega)]
            · rw [if_pos h1, if_neg h2, if_neg (by omega)]
          · rw [if_neg h1, if_neg (by omega)]
        refine Ev.step hS ?_
        cases okD p l[i]
        · exact Ev.now _
        · exact ih ()) (fun _ => by
        refine ev_eq (Ev.step (f := fun _ => some true) (fun k => ?_) (Ev.now _)) ?_
        · simp only [spec_l02Ok.l0]
          rw [if_neg (by omega)]
        · simp) i hi ()
      refine ev_eq (Ev.step (f := fun k => spec_l02Ok.l0 k p l 0) (fun k => ?_) (key 0 (by omega))) ?_
      · simp only [spec_l02Ok.j0]
        rw [if_neg (by simpa using by omega)]
      · simp [hp, h60]
    · refine ev_eq (Ev.step (f := fun _ => some false) (fun k => ?_) (Ev.now _)) ?_
      · simp only [spec_l02Ok.j0]
        rw [if_pos (by simpa using by omega)]
      · simp [h60]
  · refine ev_bind0 rfl (ev_neg (by simpa using hp) (ev_eq (Ev.step (f := fun _ => some false) (fun k => ?_) (Ev.now _)) ?_))
    · simp only [spec_l02Ok.j0]
      rfl
    · simp only [decide_eq_false (show ¬ (1 ≤ p ∧ p ≤ 16 ∧ l.length ≤ 60) by omega), Bool.false_and]

theorem ValidI_ev (p : Int) (l : List D) (hl : l.length ≤ maxLen) : Ev (fun k => impl_ValidDebts.f k p l) (valid p l) := by
  unfold impl_ValidDebts.f valid
  unfold maxLen at hl
  have hj : ∀ k, impl_ValidDebts.j0 (k + 1) p l true = some false := fun k => by simp only [impl_ValidDebts.j0]; rfl
  by_cases h1 : p < 1
  · refine ev_pos h1 (ev_eq (Ev.step (f := fun _ => some false) hj (Ev.now _)) ?_)
    simp only [decide_eq_false (show ¬ (1 ≤ p ∧ p ≤ 16 ∧ l.length ≤ 60) by omega), Bool.false_and]
  · refine ev_neg h1 ?_
    by_cases h2 : p > 16
    · refine ev_pos h2 (ev_eq (Ev.step (f := fun _ => some false) hj (Ev.now _)) ?_)
      simp only [decide_eq_false (show ¬ (1 ≤ p ∧ p ≤ 16 ∧ l.length ≤ 60) by omega), Bool.false_and]
    · refine ev_neg h2 ?_
      by_cases h60 : l.length ≤ 60
      · have key := fun (i : Nat) (hi : i ≤ l.length) => ev_for (n := l.length) (G := fun k (_ : Unit) i => impl_ValidDebts.l0 k p l (l.length : Int) i) (F := fun _ i => (l.drop i).all (okD p)) (fun i hi ih _ => by
          rw [all_drop _ _ _ hi]
          have hS : ∀ k, impl_ValidDebts.l0 (k + 1) p l (l.length : Int) (i : Int) = if okD p l[i] = true then impl_ValidDebts.l0 k p l (l.length : Int) ((i : Int) + 1) else some false := by
            intro k
            simp only [impl_ValidDebts.l0]
            rw [if_pos (by omega), if_pos (by omega), if_pos (by omega), rdD l i hi, wrap_up hi (by omega)]
            by_cases hk : okD p l[i] = true
            · have hk' := of_decide_eq_true hk
              rw [if_pos hk, if_neg (by omega), if_neg (by omega), if_neg (by omega), if_neg (by omega), if_neg (by omega), if_neg (by omega), if_neg (by omega)]
            · have hk' := of_decide_eq_false (Bool.eq_false_iff.mpr hk)
              rw [if_neg hk]
              repeat' first | rfl | (split <;> first | rfl | skip)
              omega
          refine Ev.step hS ?_
          cases okD p l[i]
          · exact Ev.now _
          · exact ih ()) (fun _ => by
          refine ev_eq (Ev.step (f := fun _ => some true) (fun k => ?_) (Ev.now _)) ?_
          · simp only [impl_ValidDebts.l0]
            rw [if_neg (by omega)]
          · simp) i hi ()
        refine ev_eq (Ev.step (f := fun k => impl_ValidDebts.l0 k p l (l.length : Int) 0) (fun k => ?_) (key 0 (by omega))) ?_
        · simp only [impl_ValidDebts.j0]
          rw [if_neg (by simpa using by omega)]
        · rw [decide_eq_true (show 1 ≤ p ∧ p ≤ 16 ∧ l.length ≤ 60 by omega)]; simp
      · refine ev_eq (Ev.step (f := fun _ => some false) (fun k => ?_) (Ev.now _)) ?_
        · simp only [impl_ValidDebts.j0]
          rw [if_pos (by simpa using by omega)]
        · simp [h60]
end Go.Proofs.YtfjmljgbdejghaaDoor.PuDebtReadDebts
