/- For all amounts and grains the program's CutStick returns what the reference's returns; no condition. -/
import Derived.Test.YtcblnnfodpglaaaMCutStickx0
import Derived.Test.YtcblnnfodpglaaaMCutStickx8
import Derived.Test.YtcblnnfodpglaaaVCutStickEv
import Derived.Test.YtcblnnfodpglaaaPuCutCutStick
import Derived.Test.YtcblnnfodpglaaaPuNotchMCutStick
import Derived.Test.YtcblnnfodpglaaaPuNotchHCutStick
namespace Go.Proofs.Ytcblnnfodpglaaa.Pure
open Go.RowKit Go.Proofs.Ytcblnnfodpglaaa.MCutStick Go.Proofs.YtcblnnfodpglaaaW.PrintWords Go.Proofs.YtcblnnfodpglaaaW.PrintLast Go.Proofs.Ytcblnnfodpglaaa.Evs Go.Proofs.Ytcblnnfodpglaaa.PuGrainCutStick Go.Proofs.Ytcblnnfodpglaaa.PuNotchCutStick Go.Proofs.Ytcblnnfodpglaaa.PuNotchMCutStick Go.Proofs.Ytcblnnfodpglaaa.PuNotchHCutStick Go.Proofs.Ytcblnnfodpglaaa.PuCutCutStick
set_option linter.unusedVariables false
set_option linter.unusedSimpArgs false

theorem FnExactCutStick (x : Int) (g : Vector Int 16) (_ : (Lit.int .i64 x).wf = true) (_ : Arr.ArrWf .i8 g) : ∃ k, laws_FnExactCutStick.f k x g = some true := by
  refine Ev.rounds (r := true) ?_
  unfold laws_FnExactCutStick.f
  have t := toGrain_ev g
  have S := CutS_ev x g
  have I := CutI_ev x g
  obtain ⟨h1, h2⟩ := cutR_len x g
  obtain ⟨r, hr⟩ : ∃ r, cutR x g = r := ⟨_, rfl⟩
  rw [hr] at S I h1 h2
  obtain ⟨s1, l1, g1, s2, l2, g2, c⟩ := r
  dsimp only at h1 h2
  have e1 := eqH_refl s1 l1 g1 (by unfold maxLen; omega)
  have e2 := eqH_refl s2 l2 g2 (by unfold maxLen; omega)
  have m1 := markH_ev s1 l1 g1 1 (by omega) (by omega) (by omega)
  have m2 := markH_ev s2 l2 g2 (1 + 2 * (l1.length : Int)) (by omega) (by omega) (by omega)
  have d1 := heldH_ev s1 l1.length g1 1 (by omega) (by omega) (by omega)
  have d2 := heldH_ev s2 l2.length g2 (1 + 2 * (l1.length : Int)) (by omega) (by omega) (by omega)
  refine Ev.bind t (Ev.bind S (Ev.bind t (Ev.bind I (Ev.bind e1 (ev_pos rfl (Ev.bind e2 (ev_pos rfl ?_)))))))
  refine Ev.step (fun k => by simp only [laws_FnExactCutStick.j0]; rfl) (ev_neg (by simp) ?_)
  refine Ev.bind m1 (Ev.bind m2 (Ev.bind d1 (ev_neg (by omega) (Ev.bind d2 (ev_neg (by omega) (ev_pos rfl ?_))))))
  refine Ev.bind t (Ev.bind I (Ev.bind e1 (ev_pos rfl (Ev.bind e2 (ev_pos rfl ?_)))))
  refine Ev.step (fun k => by simp only [laws_FnExactCutStick.j1]; rfl) (ev_neg (by simp) ?_)
  exact Ev.bind d1 (ev_neg (by omega) (Ev.bind d2 (ev_neg (by omega) (ev_pos rfl (Ev.now _)))))
end Go.Proofs.Ytcblnnfodpglaaa.Pure
