/- For all grains the program's ValidGrain returns what the reference's returns; no condition. -/
import Derived.Test.YtgkohbjphajgoaaMValidGrainx0
import Derived.Test.YtgkohbjphajgoaaMValidGrainx1
import Derived.Test.YtgkohbjphajgoaaEv
import Derived.Test.YtgkohbjphajgoaaPuGrainValidGrain
namespace Go.Proofs.Ytgkohbjphajgoaa.Pure
open Go.RowKit Go.Proofs.Ytgkohbjphajgoaa.MValidGrain Go.Proofs.YtgkohbjphajgoaaW.PrintWords Go.Proofs.YtgkohbjphajgoaaW.PrintLast Go.Proofs.Ytgkohbjphajgoaa.Evs Go.Proofs.Ytgkohbjphajgoaa.PuGrainValidGrain
set_option linter.unusedVariables false
set_option linter.unusedSimpArgs false

theorem FnExactValidGrain (a : Vector Int 16) (_ : Arr.ArrWf .i8 a) : ∃ k, laws_FnExactValidGrain.f k a = some true := by
  refine Ev.rounds (r := true) ?_
  unfold laws_FnExactValidGrain.f
  refine Ev.bind (toGrain_ev a) (Ev.bind (ValidGrainS_ev a) (Ev.bind (toGrain_ev a) (Ev.bind (ValidGrainI_ev a) ?_)))
  exact ev_neg (by simp) (Ev.now _)
end Go.Proofs.Ytgkohbjphajgoaa.Pure
