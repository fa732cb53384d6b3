/- For all halves and kinds the program's RoomFor returns what the reference's returns, and what it returned stays; no condition. -/
import Derived.Test.YtcblnnfodpglaaaMRoomForx0
import Derived.Test.YtcblnnfodpglaaaMRoomForx8
import Derived.Test.YtcblnnfodpglaaaVRoomForEv
import Derived.Test.YtcblnnfodpglaaaPuIntsRoomFor
import Derived.Test.YtcblnnfodpglaaaPuGrainRoomFor
import Derived.Test.YtcblnnfodpglaaaPuNotchRoomFor
import Derived.Test.YtcblnnfodpglaaaPuNotchMRoomFor
import Derived.Test.YtcblnnfodpglaaaPuNotchHRoomFor
import Derived.Test.YtcblnnfodpglaaaPuCutNRoomFor
import Derived.Test.YtcblnnfodpglaaaPuRoomRoomFor
namespace Go.Proofs.Ytcblnnfodpglaaa.Pure
open Go.RowKit Go.Proofs.Ytcblnnfodpglaaa.MRoomFor Go.Proofs.YtcblnnfodpglaaaW.PrintWords Go.Proofs.YtcblnnfodpglaaaW.PrintLast Go.Proofs.Ytcblnnfodpglaaa.Evs Go.Proofs.Ytcblnnfodpglaaa.PuIntsRoomFor Go.Proofs.Ytcblnnfodpglaaa.PuGrainRoomFor Go.Proofs.Ytcblnnfodpglaaa.PuNotchRoomFor Go.Proofs.Ytcblnnfodpglaaa.PuNotchMRoomFor Go.Proofs.Ytcblnnfodpglaaa.PuNotchHRoomFor Go.Proofs.Ytcblnnfodpglaaa.PuCutNRoomFor Go.Proofs.Ytcblnnfodpglaaa.PuRoomRoomFor
set_option linter.unusedVariables false
set_option linter.unusedSimpArgs false

theorem FnExactRoomFor (s : Bool) (l : List TL) (g : Vector Int 16) (a : Int) (hl : l.length ≤ maxLen) (hz : ∀ z ∈ l, (Lit.int .i8 z.f0).wf = true ∧ (Lit.int .i16 z.f1).wf = true) (_ : Arr.ArrWf .i8 g) (_ : (Lit.int .i64 a).wf = true) : ∃ k, laws_FnExactRoomFor.f k s l g a = some true := by
  refine Ev.rounds (r := true) ?_
  unfold laws_FnExactRoomFor.f
  refine ev_bind0 (szH s l g 1048576 (by omega) (by omega) hl) ?_
  by_cases h1 : (1048576 : Int) - l.length < 0
  · rw [if_pos h1]; exact Ev.now _
  rw [if_neg h1]
  have t := toH_ev s l g (by omega)
  have hm : (l.map toT).length ≤ maxLen := by rw [List.length_map]; exact hl
  have hw := wf_map hz
  have hml : (l.map toT).length ≤ 1048576 := by rw [List.length_map]; omega
  have S := RoomS_ev s (l.map toT) g a hm hw
  have I := RoomI_ev s (l.map toT) g a hm hw
  have hL := roomR_len (l.map toT) g a
  have e0 := eqH_refl s (l.map toT) g hm
  obtain ⟨r, hr⟩ : ∃ r, roomR (l.map toT) g a = r := ⟨_, rfl⟩
  rw [hr] at S I hL
  obtain ⟨r1, c⟩ := r
  dsimp only at hL
  have e1 := eqI_refl r1 (by omega)
  have m0 := markH_ev s (l.map toT) g 1 (by omega) (by omega) (by omega)
  have m1 := markI_ev r1 1 (by omega) (by omega) (by omega)
  have d1 := heldI_ev r1.length 1 (by omega) (by omega) (by omega)
  refine ev_neg h1 (Ev.bind t (Ev.bind S (Ev.bind t (Ev.bind I (Ev.bind e1 (ev_pos rfl ?_))))))
  refine Ev.step (fun k => by simp only [laws_FnExactRoomFor.j0]; rfl) (ev_neg (by simp) (Ev.bind t (Ev.bind e0 (ev_pos rfl (Ev.bind m0 ?_)))))
  refine ev_neg (show ¬ (1 + 2 * (((l.map toT).length : Nat) : Int) < 0) by omega) (Ev.bind e1 (ev_pos rfl ?_))
  refine Ev.step (fun k => by simp only [laws_FnExactRoomFor.j1]; rfl) (ev_neg (by simp) (Ev.bind m1 (Ev.bind d1 ?_)))
  refine ev_neg (show ¬ (1 + ((r1.length : Nat) : Int) < 0) by omega) (ev_pos rfl (Ev.bind t (Ev.bind I (Ev.bind e1 (ev_pos rfl ?_)))))
  refine Ev.step (fun k => by simp only [laws_FnExactRoomFor.j2]; rfl) (ev_neg (by simp) (Ev.bind d1 ?_))
  exact ev_neg (show ¬ (1 + ((r1.length : Nat) : Int) < 0) by omega) (ev_pos rfl (Ev.now _))
end Go.Proofs.Ytcblnnfodpglaaa.Pure
