/- For all grains and wears the program's FitsGrain returns what the reference's returns; no condition. -/
import Derived.Test.YtgkohbjphajgoaaMFitsGrainx0
import Derived.Test.YtgkohbjphajgoaaMFitsGrainx3
import Derived.Test.YtgkohbjphajgoaaEv
import Derived.Test.YtgkohbjphajgoaaPuGrainFitsGrain
import Derived.Test.YtgkohbjphajgoaaPuFitFitsGrain
namespace Go.Proofs.Ytgkohbjphajgoaa.Pure
open Go.RowKit Go.Proofs.Ytgkohbjphajgoaa.MFitsGrain Go.Proofs.YtgkohbjphajgoaaW.PrintWords Go.Proofs.YtgkohbjphajgoaaW.PrintLast Go.Proofs.Ytgkohbjphajgoaa.Evs Go.Proofs.Ytgkohbjphajgoaa.PuGrainFitsGrain Go.Proofs.Ytgkohbjphajgoaa.PuFitFitsGrain
set_option linter.unusedVariables false
set_option linter.unusedSimpArgs false

theorem FnExactFitsGrain (a b : Vector Int 16) (w : Int) (_ : Arr.ArrWf .i8 a) (_ : Arr.ArrWf .i8 b) (_ : (Lit.int .i64 w).wf = true) : ∃ k, laws_FnExactFitsGrain.f k a b w = some true := by
  refine Ev.rounds (r := true) ?_
  unfold laws_FnExactFitsGrain.f
  refine Ev.bind (toGrain_ev a) (Ev.bind (toGrain_ev b) (Ev.bind (FitsGrainS_ev a b w) (Ev.bind (toGrain_ev a) (Ev.bind (toGrain_ev b) (Ev.bind (FitsGrainI_ev a b w) ?_)))))
  exact ev_neg (by simp) (ev_pos rfl (Ev.now _))
end Go.Proofs.Ytgkohbjphajgoaa.Pure
