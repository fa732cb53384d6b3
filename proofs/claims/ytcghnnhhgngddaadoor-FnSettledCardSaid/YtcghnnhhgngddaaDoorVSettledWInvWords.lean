-- by a program of this session, for this claim: words that the printed texts use, cut down to what is named
import Derived.Test.YtcghnnhhgngddaaDoorVSettledWInv
import Derived.Test.YtcghnnhhgngddaaDoorVSettledWFootNe
namespace Go.Proofs.YtcghnnhhgngddaaDoorW.PrintWords
open Go.RowKit
end Go.Proofs.YtcghnnhhgngddaaDoorW.PrintWords
namespace Go.Proofs.YtcghnnhhgngddaaDoorW.PrintLast
section
variable {ops : Array Oper} {a : Act} {o og : Oper} {g : Nat} {t : Tmp} {u : Bool}
end
end Go.Proofs.YtcghnnhhgngddaaDoorW.PrintLast
