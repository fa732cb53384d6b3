/- A grain that is worn, and its opposite. -/
import Derived.Test.YtcblnnfodpglaaaMSticksx0
import Derived.Test.YtcblnnfodpglaaaMSticksx11
import Derived.Test.YtcblnnfodpglaaaMSticksx12
import Derived.Test.YtcblnnfodpglaaaVSticksEv
import Derived.Test.YtcblnnfodpglaaaPuGrainSticks
namespace Go.Proofs.Ytcblnnfodpglaaa.PuWearSticks
open Go.RowKit Go.Proofs.Ytcblnnfodpglaaa.MSticks Go.Proofs.YtcblnnfodpglaaaW.PrintWords Go.Proofs.YtcblnnfodpglaaaW.PrintLast Go.Proofs.Ytcblnnfodpglaaa.Evs Go.Proofs.Ytcblnnfodpglaaa.PuGrainSticks
set_option linter.unusedVariables false
set_option linter.unusedSimpArgs false

def wearF (x : G) (at_ by_ : Int) : G × Int :=
  if okG x = true then
    if 0 ≤ at_ ∧ at_ ≤ 15 ∧ (by_ = -1 ∨ by_ = 1) then
      let y := Arr.vst x at_ (IntKind.i8.wrap ((Arr.vrd x at_) + (IntKind.i8.wrap by_)))
      if okG y = true then (y, 0) else (zeroG, 4)
    else (zeroG, 2)
  else (zeroG, 1)
theorem WearI_ev (x : G) (p q : Int) : Ev (fun k => impl_WearGrain.f k x p q) (wearF x p q) := by
  unfold impl_WearGrain.f
  refine Ev.bind (ValidGrainI_ev x) ?_
  unfold wearF
  by_cases h : okG x = true
  · rw [if_pos h]
    refine ev_pos h ?_
    have bad : Ev (fun k => impl_WearGrain.j0 k p q true x) (zeroG, 2) := Ev.step (f := fun _ => some (zeroG, 2)) (fun k => by simp only [impl_WearGrain.j0]; rfl) (Ev.now _)
    have good : 0 ≤ p → p ≤ 15 → Ev (fun k => impl_WearGrain.j0 k p q false x) (if okG (Arr.vst x p (IntKind.i8.wrap ((Arr.vrd x p) + (IntKind.i8.wrap q)))) = true then (Arr.vst x p (IntKind.i8.wrap ((Arr.vrd x p) + (IntKind.i8.wrap q))), 0) else (zeroG, 4)) := by
      intro h0 h1
      refine Ev.step (fun k => by simp only [impl_WearGrain.j0]; rfl) ?_
      refine ev_neg (by simp) (ev_pos h0 (ev_pos (by omega) (ev_bind0 rfl (Ev.bind (ValidGrainI_ev _) ?_))))
      by_cases h2 : okG (Arr.vst x p (IntKind.i8.wrap ((Arr.vrd x p) + (IntKind.i8.wrap q)))) = true
      · exact ev_pos h2 (ev_eq (Ev.now _) (if_pos h2).symm)
      · exact ev_neg h2 (ev_eq (Ev.now _) (if_neg h2).symm)
    by_cases h3 : p < 0
    · rw [if_neg (fun z => by omega)]
      exact ev_pos h3 bad
    refine ev_neg h3 ?_
    by_cases h4 : p ≥ 16
    · rw [if_neg (fun z => by omega)]
      exact ev_pos h4 bad
    refine ev_neg h4 ?_
    by_cases h5 : q = -1
    · rw [if_pos ⟨by omega, by omega, .inl h5⟩]
      exact ev_pos h5 (good (by omega) (by omega))
    · refine ev_neg h5 ?_
      by_cases h6 : q = 1
      · rw [if_pos ⟨by omega, by omega, .inr h6⟩, show (q != 1) = false by simp [h6]]
        exact good (by omega) (by omega)
      · rw [if_neg (fun z => z.2.2.elim h5 h6), show (q != 1) = true by simp [h6]]
        exact bad
  · rw [if_neg h]
    exact ev_neg h (Ev.now _)
theorem OppI_ev (x : G) : Ev (fun k => impl_OppositeGrain.f k x) (if okG x = true then (oppG x, 0) else (zeroG, 1)) := by
  unfold impl_OppositeGrain.f
  refine Ev.bind (ValidGrainI_ev x) ?_
  by_cases h : okG x = true
  · rw [if_pos h]
    refine ev_pos h (Ev.bind (oppI_ev x) (Ev.now _))
  · rw [if_neg h]
    exact ev_neg h (Ev.now _)
end Go.Proofs.Ytcblnnfodpglaaa.PuWearSticks
