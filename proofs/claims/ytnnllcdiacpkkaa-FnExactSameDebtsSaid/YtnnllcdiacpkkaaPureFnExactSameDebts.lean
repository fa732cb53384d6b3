/- For all lists of debts the program's SameDebts returns what the reference's returns; no condition. -/
import Derived.Test.YtnnllcdiacpkkaaMSx0
import Derived.Test.YtnnllcdiacpkkaaMSx11
import Derived.Test.YtnnllcdiacpkkaaEv
import Derived.Test.YtnnllcdiacpkkaaPuDebt
namespace Go.Proofs.Ytnnllcdiacpkkaa.Pure
open Go.RowKit Go.Proofs.Ytnnllcdiacpkkaa.MS Go.Proofs.YtnnllcdiacpkkaaW.PrintWords Go.Proofs.YtnnllcdiacpkkaaW.PrintLast Go.Proofs.Ytnnllcdiacpkkaa.Evs Go.Proofs.Ytnnllcdiacpkkaa.PuDebt
set_option linter.unusedVariables false
set_option linter.unusedSimpArgs false

theorem FnExactSameDebts (a b : List DL) (ha : a.length ≤ maxLen) (_ : ∀ z ∈ a, (Lit.int .i64 z.f0).wf = true ∧ (Lit.int .i64 z.f1).wf = true ∧ (Lit.int .i64 z.f2).wf = true)
    (hb : b.length ≤ maxLen) (_ : ∀ z ∈ b, (Lit.int .i64 z.f0).wf = true ∧ (Lit.int .i64 z.f1).wf = true ∧ (Lit.int .i64 z.f2).wf = true) : ∃ k, laws_FnExactSameDebts.f k a b = some true := by
  refine Ev.rounds (r := true) ?_
  unfold laws_FnExactSameDebts.f
  refine ev_bind0 (sz a 1048576 (by omega) (by omega) ha) ?_
  by_cases h1 : (1048576 : Int) - a.length < 0
  · rw [if_pos h1]; exact Ev.now _
  rw [if_neg h1]
  refine ev_neg h1 (ev_bind0 (sz b _ (by omega) (by omega) hb) ?_)
  by_cases h2 : (1048576 : Int) - a.length - b.length < 0
  · rw [if_pos h2]; exact Ev.now _
  rw [if_neg h2]
  refine ev_neg h2 ?_
  have ta := toS_ev a (by omega)
  have tb := toS_ev b (by omega)
  have la : (a.map toD).length ≤ maxLen := by rw [List.length_map]; exact ha
  have lb : (b.map toD).length ≤ maxLen := by rw [List.length_map]; exact hb
  refine Ev.bind ta (Ev.bind tb (Ev.bind (SameS_ev _ _ la) (Ev.bind ta (Ev.bind tb (Ev.bind (SameI_ev _ _ la) ?_)))))
  refine ev_neg (by simp) (Ev.bind ta (Ev.bind (eqS_refl _ la) ?_))
  refine ev_pos rfl (Ev.bind tb (Ev.bind (eqS_refl _ lb) ?_))
  exact ev_pos rfl (Ev.now _)
end Go.Proofs.Ytnnllcdiacpkkaa.Pure
