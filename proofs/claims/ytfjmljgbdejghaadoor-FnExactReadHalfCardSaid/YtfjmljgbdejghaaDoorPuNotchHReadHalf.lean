/- Marks in a half, and that they are still held. -/
import Derived.Test.YtfjmljgbdejghaaDoorMReadHalfx0
import Derived.Test.YtfjmljgbdejghaaDoorMReadHalfx9
import Derived.Test.YtfjmljgbdejghaaDoorVReadHalfEv
import Derived.Test.YtfjmljgbdejghaaDoorPuGrainReadHalf
import Derived.Test.YtfjmljgbdejghaaDoorPuNotchReadHalf
import Derived.Test.YtfjmljgbdejghaaDoorPuNotchMReadHalf
namespace Go.Proofs.YtfjmljgbdejghaaDoor.PuNotchHReadHalf
open Go.RowKit Go.Proofs.YtfjmljgbdejghaaDoor.MReadHalf Go.Proofs.YtfjmljgbdejghaaDoorW.PrintWords Go.Proofs.YtfjmljgbdejghaaDoorW.PrintLast Go.Proofs.YtfjmljgbdejghaaDoor.Evs Go.Proofs.YtfjmljgbdejghaaDoor.PuGrainReadHalf Go.Proofs.YtfjmljgbdejghaaDoor.PuNotchReadHalf Go.Proofs.YtfjmljgbdejghaaDoor.PuNotchMReadHalf
set_option linter.unusedVariables false
set_option linter.unusedSimpArgs false
theorem markH_ev (s : Bool) (l : List T) (g : G) (m : Int) (hm : 0 ≤ m) (hm2 : m ≤ 1000000000) (h : l.length ≤ 10000000) : Ev (fun k => laws_markHalf.f k s l g m) (m + 2 * l.length, countT m l.length) := by
  unfold laws_markHalf.f
  exact Ev.bind (markN_ev l m hm hm2 h) (Ev.now _)
theorem heldH_ev (s : Bool) (n : Nat) (g : G) (m : Int) (hm : 0 ≤ m) (hm2 : m ≤ 1000000000) (h : n ≤ 10000000) : Ev (fun k => laws_heldHalf.f k s (countT m n) g m) (m + 2 * n) := by
  unfold laws_heldHalf.f
  exact Ev.bind (heldN_ev n m hm hm2 h) (ev_neg (by omega) (Ev.now _))
end Go.Proofs.YtfjmljgbdejghaaDoor.PuNotchHReadHalf
