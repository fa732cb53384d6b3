/- Marks in a half, and that they are still held. -/
import Derived.Test.YtcblnnfodpglaaaMCutStickx0
import Derived.Test.YtcblnnfodpglaaaMCutStickx7
import Derived.Test.YtcblnnfodpglaaaMCutStickx8
import Derived.Test.YtcblnnfodpglaaaVCutStickEv
import Derived.Test.YtcblnnfodpglaaaPuGrainCutStick
import Derived.Test.YtcblnnfodpglaaaPuNotchCutStick
import Derived.Test.YtcblnnfodpglaaaPuNotchMCutStick
namespace Go.Proofs.Ytcblnnfodpglaaa.PuNotchHCutStick
open Go.RowKit Go.Proofs.Ytcblnnfodpglaaa.MCutStick Go.Proofs.YtcblnnfodpglaaaW.PrintWords Go.Proofs.YtcblnnfodpglaaaW.PrintLast Go.Proofs.Ytcblnnfodpglaaa.Evs Go.Proofs.Ytcblnnfodpglaaa.PuGrainCutStick Go.Proofs.Ytcblnnfodpglaaa.PuNotchCutStick Go.Proofs.Ytcblnnfodpglaaa.PuNotchMCutStick
set_option linter.unusedVariables false
set_option linter.unusedSimpArgs false
theorem markH_ev (s : Bool) (l : List T) (g : G) (m : Int) (hm : 0 ≤ m) (hm2 : m ≤ 1000000000) (h : l.length ≤ 10000000) : Ev (fun k => laws_markHalf.f k s l g m) (m + 2 * l.length, countT m l.length) := by
  unfold laws_markHalf.f
  exact Ev.bind (markN_ev l m hm hm2 h) (Ev.now _)
theorem heldH_ev (s : Bool) (n : Nat) (g : G) (m : Int) (hm : 0 ≤ m) (hm2 : m ≤ 1000000000) (h : n ≤ 10000000) : Ev (fun k => laws_heldHalf.f k s (countT m n) g m) (m + 2 * n) := by
  unfold laws_heldHalf.f
  exact Ev.bind (heldN_ev n m hm hm2 h) (ev_neg (by omega) (Ev.now _))
end Go.Proofs.Ytcblnnfodpglaaa.PuNotchHCutStick
