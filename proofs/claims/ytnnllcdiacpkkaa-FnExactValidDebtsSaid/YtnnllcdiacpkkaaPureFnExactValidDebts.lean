/- For all numbers of people and lists of debts the program's ValidDebts returns what the reference's returns; no condition. -/
import Derived.Test.YtnnllcdiacpkkaaMSx0
import Derived.Test.YtnnllcdiacpkkaaMSx19
import Derived.Test.YtnnllcdiacpkkaaEv
import Derived.Test.YtnnllcdiacpkkaaPuDebt
namespace Go.Proofs.Ytnnllcdiacpkkaa.Pure
open Go.RowKit Go.Proofs.Ytnnllcdiacpkkaa.MS Go.Proofs.YtnnllcdiacpkkaaW.PrintWords Go.Proofs.YtnnllcdiacpkkaaW.PrintLast Go.Proofs.Ytnnllcdiacpkkaa.Evs Go.Proofs.Ytnnllcdiacpkkaa.PuDebt
set_option linter.unusedVariables false
set_option linter.unusedSimpArgs false

theorem FnExactValidDebts (p : Int) (a : List DL) (_ : (Lit.int .i64 p).wf = true) (ha : a.length ≤ maxLen) (_ : ∀ z ∈ a, (Lit.int .i64 z.f0).wf = true ∧ (Lit.int .i64 z.f1).wf = true ∧ (Lit.int .i64 z.f2).wf = true) : ∃ k, laws_FnExactValidDebts.f k p a = some true := by
  refine Ev.rounds (r := true) ?_
  unfold laws_FnExactValidDebts.f
  refine ev_bind0 (sz a 1048576 (by omega) (by omega) ha) ?_
  by_cases h1 : (1048576 : Int) - a.length < 0
  · rw [if_pos h1]; exact Ev.now _
  rw [if_neg h1]
  refine ev_neg h1 ?_
  have ta := toS_ev a (by omega)
  have la : (a.map toD).length ≤ maxLen := by rw [List.length_map]; exact ha
  refine Ev.bind ta (Ev.bind (ValidS_ev p _ la) (Ev.bind ta (Ev.bind (ValidI_ev p _ la) ?_)))
  refine ev_neg (by simp) (Ev.bind ta (Ev.bind (eqS_refl _ la) ?_))
  exact ev_pos rfl (Ev.now _)
end Go.Proofs.Ytnnllcdiacpkkaa.Pure
