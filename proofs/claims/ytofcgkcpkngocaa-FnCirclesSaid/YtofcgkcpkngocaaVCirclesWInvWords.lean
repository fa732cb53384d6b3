-- by a program of this session, for this claim: words that the printed texts use, cut down to what is named
import Derived.Test.YtofcgkcpkngocaaVCirclesWInv
import Derived.Test.YtofcgkcpkngocaaVCirclesWFootNe
namespace Go.Proofs.YtofcgkcpkngocaaW.PrintWords
open Go.RowKit
end Go.Proofs.YtofcgkcpkngocaaW.PrintWords
namespace Go.Proofs.YtofcgkcpkngocaaW.PrintLast
section
variable {ops : Array Oper} {a : Act} {o og : Oper} {g : Nat} {t : Tmp} {u : Bool}
end
end Go.Proofs.YtofcgkcpkngocaaW.PrintLast
