-- by a program of this session, for this claim: words that the printed texts use, cut down to what is named
import Derived.Test.YtcblnnfodpglaaaGreatDoorVNotchedWInv
import Derived.Test.YtcblnnfodpglaaaGreatDoorVNotchedWFootNe
namespace Go.Proofs.YtcblnnfodpglaaaGreatDoorW.PrintWords
open Go.RowKit
end Go.Proofs.YtcblnnfodpglaaaGreatDoorW.PrintWords
namespace Go.Proofs.YtcblnnfodpglaaaGreatDoorW.PrintLast
section
variable {ops : Array Oper} {a : Act} {o og : Oper} {g : Nat} {t : Tmp} {u : Bool}
end
end Go.Proofs.YtcblnnfodpglaaaGreatDoorW.PrintLast
