/- For all halves, kinds and places the program's CutNotch returns what the reference's returns, and what it returned stays; no condition. -/
import Derived.Test.YtcblnnfodpglaaaMCutNotchx0
import Derived.Test.YtcblnnfodpglaaaMCutNotchx9
import Derived.Test.YtcblnnfodpglaaaVCutNotchEv
import Derived.Test.YtcblnnfodpglaaaPuGrainCutNotch
import Derived.Test.YtcblnnfodpglaaaPuNotchCutNotch
import Derived.Test.YtcblnnfodpglaaaPuNotchMCutNotch
import Derived.Test.YtcblnnfodpglaaaPuNotchHCutNotch
import Derived.Test.YtcblnnfodpglaaaPuCutNCutNotch
import Derived.Test.YtcblnnfodpglaaaPuCutN2CutNotch
namespace Go.Proofs.Ytcblnnfodpglaaa.Pure
open Go.RowKit Go.Proofs.Ytcblnnfodpglaaa.MCutNotch Go.Proofs.YtcblnnfodpglaaaW.PrintWords Go.Proofs.YtcblnnfodpglaaaW.PrintLast Go.Proofs.Ytcblnnfodpglaaa.Evs Go.Proofs.Ytcblnnfodpglaaa.PuGrainCutNotch Go.Proofs.Ytcblnnfodpglaaa.PuNotchCutNotch Go.Proofs.Ytcblnnfodpglaaa.PuNotchMCutNotch Go.Proofs.Ytcblnnfodpglaaa.PuNotchHCutNotch Go.Proofs.Ytcblnnfodpglaaa.PuCutNCutNotch Go.Proofs.Ytcblnnfodpglaaa.PuCutN2CutNotch
set_option linter.unusedVariables false
set_option linter.unusedSimpArgs false

theorem FnExactCutNotch (s : Bool) (l : List TL) (g : Vector Int 16) (a b : Int) (hl : l.length ≤ maxLen) (hz : ∀ z ∈ l, (Lit.int .i8 z.f0).wf = true ∧ (Lit.int .i16 z.f1).wf = true) (_ : Arr.ArrWf .i8 g) (_ : (Lit.int .i64 a).wf = true) (_ : (Lit.int .i64 b).wf = true) : ∃ k, laws_FnExactCutNotch.f k s l g a b = some true := by
  refine Ev.rounds (r := true) ?_
  unfold laws_FnExactCutNotch.f
  refine ev_bind0 (szH s l g 1048576 (by omega) (by omega) hl) ?_
  by_cases h1 : (1048576 : Int) - l.length < 0
  · rw [if_pos h1]; exact Ev.now _
  rw [if_neg h1]
  have t := toH_ev s l g (by omega)
  have hm : (l.map toT).length ≤ maxLen := by rw [List.length_map]; exact hl
  have hw := wf_map hz
  have hml : (l.map toT).length ≤ 1048576 := by rw [List.length_map]; omega
  have S := CutNotchS_ev s (l.map toT) g a b hm hw
  have I := CutNotchI_ev s (l.map toT) g a b hm hw
  have hL := cutH_len s (l.map toT) g a b
  have e0 := eqH_refl s (l.map toT) g hm
  obtain ⟨r, hr⟩ : ∃ r, cutH s (l.map toT) g a b = r := ⟨_, rfl⟩
  rw [hr] at S I hL
  obtain ⟨s1, l1, g1, c⟩ := r
  dsimp only at hL
  have e1 := eqH_refl s1 l1 g1 (by unfold maxLen; omega)
  have m0 := markH_ev s (l.map toT) g 1 (by omega) (by omega) (by omega)
  have m1 := markH_ev s1 l1 g1 1 (by omega) (by omega) (by omega)
  have d1 := heldH_ev s1 l1.length g1 1 (by omega) (by omega) (by omega)
  refine ev_neg h1 (Ev.bind t (Ev.bind S (Ev.bind t (Ev.bind I (Ev.bind e1 (ev_pos rfl ?_))))))
  refine Ev.step (fun k => by simp only [laws_FnExactCutNotch.j0]; rfl) (ev_neg (by simp) (Ev.bind t (Ev.bind e0 (ev_pos rfl (Ev.bind m0 ?_)))))
  refine ev_neg (show ¬ (1 + 2 * (((l.map toT).length : Nat) : Int) < 0) by omega) (Ev.bind e1 (ev_pos rfl ?_))
  refine Ev.step (fun k => by simp only [laws_FnExactCutNotch.j1]; rfl) (ev_neg (by simp) (Ev.bind m1 (Ev.bind d1 ?_)))
  refine ev_neg (show ¬ (1 + 2 * ((l1.length : Nat) : Int) < 0) by omega) (ev_pos rfl (Ev.bind t (Ev.bind I (Ev.bind e1 (ev_pos rfl ?_)))))
  refine Ev.step (fun k => by simp only [laws_FnExactCutNotch.j2]; rfl) (ev_neg (by simp) (Ev.bind d1 ?_))
  exact ev_neg (show ¬ (1 + 2 * ((l1.length : Nat) : Int) < 0) by omega) (ev_pos rfl (Ev.now _))
end Go.Proofs.Ytcblnnfodpglaaa.Pure
