/- For all grains the program and the reference make the same opposite, and the same code; no condition. -/
import Derived.Test.YtgkohbjphajgoaaMOppositeGrainx0
import Derived.Test.YtgkohbjphajgoaaMOppositeGrainx1
import Derived.Test.YtgkohbjphajgoaaEv
import Derived.Test.YtgkohbjphajgoaaPuGrainOppositeGrain
namespace Go.Proofs.Ytgkohbjphajgoaa.Pure
open Go.RowKit Go.Proofs.Ytgkohbjphajgoaa.MOppositeGrain Go.Proofs.YtgkohbjphajgoaaW.PrintWords Go.Proofs.YtgkohbjphajgoaaW.PrintLast Go.Proofs.Ytgkohbjphajgoaa.Evs Go.Proofs.Ytgkohbjphajgoaa.PuGrainOppositeGrain
set_option linter.unusedVariables false
set_option linter.unusedSimpArgs false

theorem OppS_ev (x : G) : Ev (fun k => spec_OppositeGrain.f k x) (if okG x = true then (oppG x, 0) else (zeroG, 1)) := by
  unfold spec_OppositeGrain.f
  refine Ev.bind (l01Grain_ev x) ?_
  by_cases h : okG x = true
  · rw [if_pos h]
    refine ev_pos h (Ev.bind (oppS_ev x) (Ev.now _))
  · rw [if_neg h]
    exact ev_neg h (Ev.now _)
theorem OppI_ev (x : G) : Ev (fun k => impl_OppositeGrain.f k x) (if okG x = true then (oppG x, 0) else (zeroG, 1)) := by
  unfold impl_OppositeGrain.f
  refine Ev.bind (ValidGrainI_ev x) ?_
  by_cases h : okG x = true
  · rw [if_pos h]
    refine ev_pos h (Ev.bind (oppI_ev x) (Ev.now _))
  · rw [if_neg h]
    exact ev_neg h (Ev.now _)
theorem FnExactOppositeGrain (a : Vector Int 16) (_ : Arr.ArrWf .i8 a) : ∃ k, laws_FnExactOppositeGrain.f k a = some true := by
  refine Ev.rounds (r := true) ?_
  unfold laws_FnExactOppositeGrain.f
  refine Ev.bind (toGrain_ev a) (Ev.bind (OppS_ev a) (Ev.bind (toGrain_ev a) (Ev.bind (OppI_ev a) (Ev.bind (eqGrain_refl _) ?_))))
  exact ev_pos rfl (ev_pos rfl (Ev.now _))
end Go.Proofs.Ytgkohbjphajgoaa.Pure
