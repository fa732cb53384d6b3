/- For all seeds the program and the reference make the same grain and the same next seed; no condition. -/
import Derived.Test.YtgkohbjphajgoaaMGrainFromx0
import Derived.Test.YtgkohbjphajgoaaMGrainFromx1
import Derived.Test.YtgkohbjphajgoaaEv
import Derived.Test.YtgkohbjphajgoaaPuGrainGrainFrom
namespace Go.Proofs.Ytgkohbjphajgoaa.Pure
open Go.RowKit Go.Proofs.Ytgkohbjphajgoaa.MGrainFrom Go.Proofs.YtgkohbjphajgoaaW.PrintWords Go.Proofs.YtgkohbjphajgoaaW.PrintLast Go.Proofs.Ytgkohbjphajgoaa.Evs Go.Proofs.Ytgkohbjphajgoaa.PuGrainGrainFrom
set_option linter.unusedVariables false
set_option linter.unusedSimpArgs false

theorem FnExactGrainFrom (a : Int) (_ : (Lit.int .u32 a).wf = true) : ∃ k, laws_FnExactGrainFrom.f k a = some true := by
  refine Ev.rounds (r := true) ?_
  unfold laws_FnExactGrainFrom.f
  refine Ev.bind (GrainFromS_ev a) (Ev.bind (GrainFromI_ev a) (Ev.bind (eqGrain_refl _) ?_))
  exact ev_pos rfl (ev_pos rfl (Ev.now _))
end Go.Proofs.Ytgkohbjphajgoaa.Pure
