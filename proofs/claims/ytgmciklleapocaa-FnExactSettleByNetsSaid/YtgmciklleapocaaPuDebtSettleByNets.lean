/- Lists of debts: their sizes, copies, equality and validity, as functions of this program come to them. -/
import Derived.Test.YtgmciklleapocaaMSettleByNetsx0
import Derived.Test.YtgmciklleapocaaMSettleByNetsx1
import Derived.Test.YtgmciklleapocaaMSettleByNetsx2
import Derived.Test.YtgmciklleapocaaEv
namespace Go.Proofs.Ytgmciklleapocaa.PuDebtSettleByNets
open Go.RowKit Go.Proofs.Ytgmciklleapocaa.MSettleByNets Go.Proofs.YtgmciklleapocaaW.PrintWords Go.Proofs.YtgmciklleapocaaW.PrintLast Go.Proofs.Ytgmciklleapocaa.Evs
set_option linter.unusedVariables false
set_option linter.unusedSimpArgs false
abbrev D := S64
noncomputable def dec (p : Prop) : Bool := @decide p (Classical.propDecidable p)
theorem dec_true {p : Prop} (h : p) : dec p = true := by unfold dec; exact @decide_eq_true p (Classical.propDecidable p) h
theorem dec_false {p : Prop} (h : ¬ p) : dec p = false := by unfold dec; exact @decide_eq_false p (Classical.propDecidable p) h
theorem D.ext {a b : D} (h0 : a.f0 = b.f0) (h1 : a.f1 = b.f1) (h2 : a.f2 = b.f2) : a = b := by
  cases a; cases b; simp_all
theorem rdD (l : List D) (i : Nat) (h : i < l.length) : rd_T64 l (i : Int) = l[i] := getD_lt l _ i h

theorem eqS_refl (a : List D) (h : a.length ≤ maxLen) : Ev (fun k => laws_eqDebtS.f k a a) true := by
  unfold laws_eqDebtS.f
  unfold maxLen at h
  refine ev_pos rfl ?_
  have key : ∀ i : Nat, i ≤ a.length → ∀ _ : Unit, Ev (fun k => laws_eqDebtS.l0 k a a (i : Int)) true :=
    fun i hi => ev_for (n := a.length) (G := fun k (_ : Unit) i => laws_eqDebtS.l0 k a a i) (F := fun _ _ => true) (fun i hi ih _ => by
      refine Ev.step (fun k => ?_) (ih ())
      simp only [laws_eqDebtS.l0]
      rw [if_pos (by omega), if_pos (by omega), if_pos (by omega), wrap_up hi (by omega)]
      simp [laws_eqDebt.f]) (fun _ => by
      refine Ev.step (f := fun _ => some true) (fun k => ?_) (Ev.now _)
      simp only [laws_eqDebtS.l0]
      rw [if_neg (by omega)]) i hi
  exact key 0 (by omega) ()

/-- valid debts -/
def okD (p : Int) (d : D) : Bool := decide (0 ≤ d.f0 ∧ d.f0 < p ∧ 0 ≤ d.f1 ∧ d.f1 < p ∧ d.f0 ≠ d.f1 ∧ 1 ≤ d.f2 ∧ d.f2 ≤ 100000000)
def valid (p : Int) (l : List D) : Bool := decide (1 ≤ p ∧ p ≤ 16 ∧ l.length ≤ 60) && l.all (okD p)
theorem all_drop {α : Type} (f : α → Bool) (l : List α) (i : Nat) (h : i < l.length) : (l.drop i).all f = (f l[i] && (l.drop (i + 1)).all f) := by
  rw [List.drop_eq_getElem_cons h]; rfl
theorem okD_true {p : Int} {d : D} (h : 0 ≤ d.f0 ∧ d.f0 < p ∧ 0 ≤ d.f1 ∧ d.f1 < p ∧ d.f0 ≠ d.f1 ∧ 1 ≤ d.f2 ∧ d.f2 ≤ 100000000) : okD p d = true := decide_eq_true h
theorem okD_false {p : Int} {d : D} (h : ¬ (0 ≤ d.f0 ∧ d.f0 < p ∧ 0 ≤ d.f1 ∧ d.f1 < p ∧ d.f0 ≠ d.f1 ∧ 1 ≤ d.f2 ∧ d.f2 ≤ 100000000)) : okD p d = false := decide_eq_false h
theorem l00In_f (a b c : Int) : spec_l00In.f a b c = some (decide (b ≤ a ∧ a ≤ c)) := by
  unfold spec_l00In.f
  by_cases h : a ≥ b
  · rw [if_pos h]; congr 1; simp [show b ≤ a from h]
  · rw [if_neg h]; congr 1; simp [show ¬ b ≤ a from h]


end Go.Proofs.Ytgmciklleapocaa.PuDebtSettleByNets
