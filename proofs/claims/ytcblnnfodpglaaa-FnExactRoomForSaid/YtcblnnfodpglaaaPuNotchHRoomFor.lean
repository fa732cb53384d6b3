/- Marks in a half, and that they are still held. -/
import Derived.Test.YtcblnnfodpglaaaMRoomForx0
import Derived.Test.YtcblnnfodpglaaaMRoomForx1
import Derived.Test.YtcblnnfodpglaaaVRoomForEv
import Derived.Test.YtcblnnfodpglaaaPuGrainRoomFor
import Derived.Test.YtcblnnfodpglaaaPuNotchRoomFor
import Derived.Test.YtcblnnfodpglaaaPuNotchMRoomFor
namespace Go.Proofs.Ytcblnnfodpglaaa.PuNotchHRoomFor
open Go.RowKit Go.Proofs.Ytcblnnfodpglaaa.MRoomFor Go.Proofs.YtcblnnfodpglaaaW.PrintWords Go.Proofs.YtcblnnfodpglaaaW.PrintLast Go.Proofs.Ytcblnnfodpglaaa.Evs Go.Proofs.Ytcblnnfodpglaaa.PuGrainRoomFor Go.Proofs.Ytcblnnfodpglaaa.PuNotchRoomFor Go.Proofs.Ytcblnnfodpglaaa.PuNotchMRoomFor
set_option linter.unusedVariables false
set_option linter.unusedSimpArgs false
theorem markH_ev (s : Bool) (l : List T) (g : G) (m : Int) (hm : 0 ≤ m) (hm2 : m ≤ 1000000000) (h : l.length ≤ 10000000) : Ev (fun k => laws_markHalf.f k s l g m) (m + 2 * l.length, countT m l.length) := by
  unfold laws_markHalf.f
  exact Ev.bind (markN_ev l m hm hm2 h) (Ev.now _)

end Go.Proofs.Ytcblnnfodpglaaa.PuNotchHRoomFor
