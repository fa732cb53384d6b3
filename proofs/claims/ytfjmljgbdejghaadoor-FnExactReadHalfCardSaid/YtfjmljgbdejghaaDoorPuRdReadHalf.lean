/- Words of a list of words. -/
import Derived.Test.YtfjmljgbdejghaaDoorMReadHalfx0
import Derived.Test.YtfjmljgbdejghaaDoorVReadHalfEv
import Derived.Test.YtfjmljgbdejghaaDoorPuBytReadHalf
namespace Go.Proofs.YtfjmljgbdejghaaDoor.PuRdReadHalf
open Go.RowKit Go.Proofs.YtfjmljgbdejghaaDoor.MReadHalf Go.Proofs.YtfjmljgbdejghaaDoorW.PrintWords Go.Proofs.YtfjmljgbdejghaaDoorW.PrintLast Go.Proofs.YtfjmljgbdejghaaDoor.Evs Go.Proofs.YtfjmljgbdejghaaDoor.PuBytReadHalf
theorem rdOf_mk (ws : List (List UInt8)) (i : Nat) (h : i < ws.length) : rdOf ByteArray.empty (ws.map mkB) (i : Int) = mkB (ws[i]) := by
  unfold rdOf
  rw [show ((i : Int)).toNat = i by omega, getD_lt _ _ _ (by simpa using h), List.getElem_map]
end Go.Proofs.YtfjmljgbdejghaaDoor.PuRdReadHalf
