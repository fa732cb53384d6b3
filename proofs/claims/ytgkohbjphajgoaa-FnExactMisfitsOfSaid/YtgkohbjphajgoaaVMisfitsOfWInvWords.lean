-- by a program of this session, for this claim: words that the printed texts use, cut down to what is named
import Derived.Test.YtgkohbjphajgoaaVMisfitsOfWInv
import Derived.Test.YtgkohbjphajgoaaVMisfitsOfWFootNe
namespace Go.Proofs.YtgkohbjphajgoaaW.PrintWords
open Go.RowKit
end Go.Proofs.YtgkohbjphajgoaaW.PrintWords
namespace Go.Proofs.YtgkohbjphajgoaaW.PrintLast
section
variable {ops : Array Oper} {a : Act} {o og : Oper} {g : Nat} {t : Tmp} {u : Bool}
end
end Go.Proofs.YtgkohbjphajgoaaW.PrintLast
