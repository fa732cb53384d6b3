/- For all numbers of people, lists of debts and pairs of people the program's OwedBetween returns what the reference's returns; no condition. -/
import Derived.Test.YtofcgkcpkngocaaMOwedBetweenx0
import Derived.Test.YtofcgkcpkngocaaMOwedBetweenx5
import Derived.Test.YtofcgkcpkngocaaEv
import Derived.Test.YtofcgkcpkngocaaPuDebtOwedBetween
import Derived.Test.YtofcgkcpkngocaaPuTableOwedBetween
namespace Go.Proofs.Ytofcgkcpkngocaa.Pure
open Go.RowKit Go.Proofs.Ytofcgkcpkngocaa.MOwedBetween Go.Proofs.YtofcgkcpkngocaaW.PrintWords Go.Proofs.YtofcgkcpkngocaaW.PrintLast Go.Proofs.Ytofcgkcpkngocaa.Evs Go.Proofs.Ytofcgkcpkngocaa.PuDebtOwedBetween Go.Proofs.Ytofcgkcpkngocaa.PuTableOwedBetween
set_option linter.unusedVariables false
set_option linter.unusedSimpArgs false

theorem FnExactOwedBetween (p : Int) (l : List DL) (a b : Int) (_ : (Lit.int .i64 p).wf = true) (hl : l.length ≤ maxLen) (_ : ∀ z ∈ l, (Lit.int .i64 z.f0).wf = true ∧ (Lit.int .i64 z.f1).wf = true ∧ (Lit.int .i64 z.f2).wf = true)
    (_ : (Lit.int .i64 a).wf = true) (_ : (Lit.int .i64 b).wf = true) : ∃ k, laws_FnExactOwedBetween.f k p l a b = some true := by
  refine Ev.rounds (r := true) ?_
  unfold laws_FnExactOwedBetween.f
  refine ev_bind0 (sz l 1048576 (by omega) (by omega) hl) ?_
  by_cases h1 : (1048576 : Int) - l.length < 0
  · rw [if_pos h1]; exact Ev.now _
  rw [if_neg h1]
  have t := toS_ev l (by omega)
  have hm : (l.map toD).length ≤ maxLen := by rw [List.length_map]; exact hl
  refine ev_neg h1 (Ev.bind t (Ev.bind (OwedS_ev p _ a b hm) (Ev.bind t (Ev.bind (OwedI_ev p _ a b hm) ?_))))
  refine ev_pos rfl (Ev.step (fun k => by simp only [laws_FnExactOwedBetween.j0]; rfl) (ev_neg (by simp) (Ev.bind t (Ev.bind (eqS_refl _ hm) (ev_pos rfl (Ev.now _))))))
end Go.Proofs.Ytofcgkcpkngocaa.Pure
