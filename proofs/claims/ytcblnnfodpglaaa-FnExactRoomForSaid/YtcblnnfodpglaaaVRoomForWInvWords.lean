-- by a program of this session, for this claim: words that the printed texts use, cut down to what is named
import Derived.Test.YtcblnnfodpglaaaVRoomForWInv
import Derived.Test.YtcblnnfodpglaaaVRoomForWFootNe
namespace Go.Proofs.YtcblnnfodpglaaaW.PrintWords
open Go.RowKit
end Go.Proofs.YtcblnnfodpglaaaW.PrintWords
namespace Go.Proofs.YtcblnnfodpglaaaW.PrintLast
section
variable {ops : Array Oper} {a : Act} {o og : Oper} {g : Nat} {t : Tmp} {u : Bool}
end
end Go.Proofs.YtcblnnfodpglaaaW.PrintLast
