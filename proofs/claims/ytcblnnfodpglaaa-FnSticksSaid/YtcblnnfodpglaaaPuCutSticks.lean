/- The two halves of a stick: the program's and the reference's. -/
import Derived.Test.YtcblnnfodpglaaaMSticksx0
import Derived.Test.YtcblnnfodpglaaaMSticksx4
import Derived.Test.YtcblnnfodpglaaaMSticksx7
import Derived.Test.YtcblnnfodpglaaaVSticksEv
import Derived.Test.YtcblnnfodpglaaaPuGrainSticks
import Derived.Test.YtcblnnfodpglaaaPuNotchSticks
import Derived.Test.YtcblnnfodpglaaaPuHalf1Sticks
import Derived.Test.YtcblnnfodpglaaaPuForSticks
namespace Go.Proofs.Ytcblnnfodpglaaa.PuCutSticks
open Go.RowKit Go.Proofs.Ytcblnnfodpglaaa.MSticks Go.Proofs.YtcblnnfodpglaaaW.PrintWords Go.Proofs.YtcblnnfodpglaaaW.PrintLast Go.Proofs.Ytcblnnfodpglaaa.Evs Go.Proofs.Ytcblnnfodpglaaa.PuGrainSticks Go.Proofs.Ytcblnnfodpglaaa.PuNotchSticks Go.Proofs.Ytcblnnfodpglaaa.PuHalf1Sticks Go.Proofs.Ytcblnnfodpglaaa.PuForSticks
set_option linter.unusedVariables false
set_option linter.unusedSimpArgs false
def cutR (x : Int) (g : G) : Bool × List T × G × Bool × List T × G × Int :=
  if okG g = true then (if (forR x).2 = 0 then (true, (forR x).1, g, false, (forR x).1, oppG g, 0) else (false, [], (Vector.replicate 16 0 : Vector Int 16), false, [], (Vector.replicate 16 0 : Vector Int 16), (forR x).2)) else (false, [], (Vector.replicate 16 0 : Vector Int 16), false, [], (Vector.replicate 16 0 : Vector Int 16), 1)
theorem cutR_len (x : Int) (g : G) : (cutR x g).2.1.length ≤ 60 ∧ (cutR x g).2.2.2.2.1.length ≤ 60 := by
  have := forR_len x
  unfold cutR
  by_cases h : okG g = true
  · rw [if_pos h]
    by_cases h2 : (forR x).2 = 0
    · rw [if_pos h2]; exact ⟨this, this⟩
    · rw [if_neg h2]; exact ⟨by simp, by simp⟩
  · rw [if_neg h]; exact ⟨by simp, by simp⟩
theorem cloneN (l : List T) (h : l.length ≤ 1000) : impl_Notch_41.f l = some l := by
  unfold impl_Notch_41.f
  rw [Option.bind_some, if_pos (by simp; omega)]
  rfl
theorem copyN (l : List T) (h : l.length ≤ 1000) : spec_l01Copy.f l = some l := by
  unfold spec_l01Copy.f
  rw [Option.bind_some, if_pos (by simp; omega)]
  rfl
theorem CutI_ev (x : Int) (g : G) : Ev (fun k => impl_CutStick.f k x g) (cutR x g) := by
  have := forR_len x
  unfold impl_CutStick.f cutR
  refine Ev.bind (ValidGrainI_ev g) ?_
  by_cases h : okG g = true
  · rw [if_pos h]
    refine ev_pos h (Ev.bind (ForI_ev x) ?_)
    by_cases h2 : (forR x).2 = 0
    · rw [if_pos h2]
      exact ev_pos h2 (ev_bind0 (cloneN _ (by omega)) (Ev.bind (oppI_ev g) (Ev.now _)))
    · rw [if_neg h2]
      exact ev_neg h2 (Ev.now _)
  · rw [if_neg h]
    exact ev_neg h (Ev.now _)
theorem CutS_ev (x : Int) (g : G) : Ev (fun k => spec_CutStick.f k x g) (cutR x g) := by
  have := forR_len x
  unfold spec_CutStick.f cutR
  refine Ev.bind (l01Grain_ev g) ?_
  by_cases h : okG g = true
  · rw [if_pos h]
    refine ev_pos h (Ev.bind (ForS_ev x) ?_)
    by_cases h2 : (forR x).2 = 0
    · rw [if_pos h2]
      exact ev_pos h2 (ev_bind0 (copyN _ (by omega)) (Ev.bind (oppS_ev g) (Ev.now _)))
    · rw [if_neg h2]
      exact ev_neg h2 (Ev.now _)
  · rw [if_neg h]
    exact ev_neg h (Ev.now _)
end Go.Proofs.Ytcblnnfodpglaaa.PuCutSticks
