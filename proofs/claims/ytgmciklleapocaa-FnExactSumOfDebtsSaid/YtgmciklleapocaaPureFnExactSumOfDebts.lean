/- For all numbers of people and lists of debts the program's SumOfDebts returns what the reference's returns; no condition. -/
import Derived.Test.YtgmciklleapocaaMSx0
import Derived.Test.YtgmciklleapocaaMSx10
import Derived.Test.YtgmciklleapocaaEv
import Derived.Test.YtgmciklleapocaaPuSumNets
namespace Go.Proofs.Ytgmciklleapocaa.Pure
open Go.RowKit Go.Proofs.Ytgmciklleapocaa.MS Go.Proofs.YtgmciklleapocaaW.PrintWords Go.Proofs.YtgmciklleapocaaW.PrintLast Go.Proofs.Ytgmciklleapocaa.Evs Go.Proofs.Ytgmciklleapocaa.PuDebt Go.Proofs.Ytgmciklleapocaa.PuSumNets
set_option linter.unusedVariables false
set_option linter.unusedSimpArgs false

theorem FnExactSumOfDebts (p : Int) (a : List DL) (_ : (Lit.int .i64 p).wf = true) (ha : a.length ≤ maxLen) (_ : ∀ z ∈ a, (Lit.int .i64 z.f0).wf = true ∧ (Lit.int .i64 z.f1).wf = true ∧ (Lit.int .i64 z.f2).wf = true) : ∃ k, laws_FnExactSumOfDebts.f k p a = some true := by
  refine Ev.rounds (r := true) ?_
  unfold laws_FnExactSumOfDebts.f
  refine ev_bind0 (sz a 1048576 (by omega) (by omega) ha) ?_
  by_cases h1 : (1048576 : Int) - a.length < 0
  · rw [if_pos h1]; exact Ev.now _
  rw [if_neg h1]
  refine ev_neg h1 ?_
  have ta := toS_ev a (by omega)
  have la : (a.map toD).length ≤ maxLen := by rw [List.length_map]; exact ha
  refine Ev.bind ta (Ev.bind (SumS_ev p _ la) (Ev.bind ta (Ev.bind (SumI_ev p _ la) ?_)))
  refine ev_pos rfl ?_
  rw [bne_self_eq_false]
  refine Ev.step (fun k => by simp only [laws_FnExactSumOfDebts.j0]; rfl) (Ev.bind ta (Ev.bind (eqS_refl _ la) ?_))
  exact ev_pos rfl (Ev.now _)
end Go.Proofs.Ytgmciklleapocaa.Pure
