/- Marks in a half, and that they are still held. -/
import Derived.Test.YtcblnnfodpglaaaMCutNotchx0
import Derived.Test.YtcblnnfodpglaaaMCutNotchx1
import Derived.Test.YtcblnnfodpglaaaMCutNotchx2
import Derived.Test.YtcblnnfodpglaaaVCutNotchEv
import Derived.Test.YtcblnnfodpglaaaPuGrainCutNotch
import Derived.Test.YtcblnnfodpglaaaPuNotchCutNotch
import Derived.Test.YtcblnnfodpglaaaPuNotchMCutNotch
namespace Go.Proofs.Ytcblnnfodpglaaa.PuNotchHCutNotch
open Go.RowKit Go.Proofs.Ytcblnnfodpglaaa.MCutNotch Go.Proofs.YtcblnnfodpglaaaW.PrintWords Go.Proofs.YtcblnnfodpglaaaW.PrintLast Go.Proofs.Ytcblnnfodpglaaa.Evs Go.Proofs.Ytcblnnfodpglaaa.PuGrainCutNotch Go.Proofs.Ytcblnnfodpglaaa.PuNotchCutNotch Go.Proofs.Ytcblnnfodpglaaa.PuNotchMCutNotch
set_option linter.unusedVariables false
set_option linter.unusedSimpArgs false
theorem markH_ev (s : Bool) (l : List T) (g : G) (m : Int) (hm : 0 ≤ m) (hm2 : m ≤ 1000000000) (h : l.length ≤ 10000000) : Ev (fun k => laws_markHalf.f k s l g m) (m + 2 * l.length, countT m l.length) := by
  unfold laws_markHalf.f
  exact Ev.bind (markN_ev l m hm hm2 h) (Ev.now _)
theorem heldH_ev (s : Bool) (n : Nat) (g : G) (m : Int) (hm : 0 ≤ m) (hm2 : m ≤ 1000000000) (h : n ≤ 10000000) : Ev (fun k => laws_heldHalf.f k s (countT m n) g m) (m + 2 * n) := by
  unfold laws_heldHalf.f
  exact Ev.bind (heldN_ev n m hm hm2 h) (ev_neg (by omega) (Ev.now _))
end Go.Proofs.Ytcblnnfodpglaaa.PuNotchHCutNotch
