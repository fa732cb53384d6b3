/- The numbers that a law writes into lists of debts. -/
import Derived.Test.YtgmciklleapocaaMSx0
import Derived.Test.YtgmciklleapocaaMSx14
import Derived.Test.YtgmciklleapocaaEv
import Derived.Test.YtgmciklleapocaaPuDebt
namespace Go.Proofs.Ytgmciklleapocaa.PuDebtM
open Go.RowKit Go.Proofs.Ytgmciklleapocaa.MS Go.Proofs.YtgmciklleapocaaW.PrintWords Go.Proofs.YtgmciklleapocaaW.PrintLast Go.Proofs.Ytgmciklleapocaa.Evs Go.Proofs.Ytgmciklleapocaa.PuDebt
set_option linter.unusedVariables false
set_option linter.unusedSimpArgs false

theorem markD_ev (l : List D) (m : Int) (hm : 0 ≤ m) (hm2 : m ≤ 1000000000) (h : l.length ≤ 10000000) : ∃ l', l'.length = l.length ∧ Ev (fun k => laws_markDebtS.f k l m) (m + 3 * l.length, l') := by
  unfold laws_markDebtS.f
  have key : ∀ (d i : Nat) (x : List D), x.length = l.length → l.length - i = d → i ≤ l.length → ∃ l', l'.length = l.length ∧ Ev (fun k => laws_markDebtS.l0 k x (m + 3 * i) (i : Int)) (m + 3 * l.length, l') := by
    intro d
    induction d with
    | zero =>
      intro i x hx hd hi
      have : i = l.length := by omega
      refine ⟨x, hx, Ev.step (f := fun _ => some (m + 3 * l.length, x)) (fun k => ?_) (Ev.now _)⟩
      simp only [laws_markDebtS.l0]
      rw [if_neg (by omega), this]
    | succ d ih =>
      intro i x hx hd hi
      have hlt : i < x.length := by omega
      let x1 : List D := x.set i ⟨m + 3 * i, (rd_T64 x (i : Int)).f1, (rd_T64 x (i : Int)).f2⟩
      let x2 : List D := x1.set i ⟨(rd_T64 x1 (i : Int)).f0, m + 3 * i + 1, (rd_T64 x1 (i : Int)).f2⟩
      let x3 : List D := x2.set i ⟨(rd_T64 x2 (i : Int)).f0, (rd_T64 x2 (i : Int)).f1, m + 3 * i + 2⟩
      obtain ⟨l', hl', he⟩ := ih (i + 1) x3 (by simp [x3, x2, x1, hx]) (by omega) (by omega)
      refine ⟨l', hl', Ev.step (fun k => ?_) he⟩
      simp only [laws_markDebtS.l0, Option.bind_some]
      rw [if_pos (by omega), if_pos (by omega), wrap_up (n := x.length) hlt (by omega), wrap_id (x := m + 3 * i + 1) (by omega) (by omega), wrap_id (x := m + 3 * i + 1 + 1) (by omega) (by omega), wrap_id (x := m + 3 * i + 1 + 1 + 1) (by omega) (by omega)]
      rw [show ((i : Int)).toNat = i from Int.toNat_natCast i, show m + 3 * (i : Int) + 1 + 1 = m + 3 * i + 2 by omega]
      rw [show m + 3 * (i : Int) + 2 + 1 = m + 3 * ((i + 1 : Nat) : Int) by omega, show ((i : Int) + 1) = ((i + 1 : Nat) : Int) by omega]
  simpa using key l.length 0 l rfl rfl (by omega)
end Go.Proofs.Ytgmciklleapocaa.PuDebtM
