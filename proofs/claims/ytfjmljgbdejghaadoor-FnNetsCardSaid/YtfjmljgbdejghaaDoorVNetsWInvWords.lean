-- by a program of this session, for this claim: words that the printed texts use, cut down to what is named
import Derived.Test.YtfjmljgbdejghaaDoorVNetsWInv
import Derived.Test.YtfjmljgbdejghaaDoorVNetsWFootNe
namespace Go.Proofs.YtfjmljgbdejghaaDoorW.PrintWords
open Go.RowKit
end Go.Proofs.YtfjmljgbdejghaaDoorW.PrintWords
namespace Go.Proofs.YtfjmljgbdejghaaDoorW.PrintLast
section
variable {ops : Array Oper} {a : Act} {o og : Oper} {g : Nat} {t : Tmp} {u : Bool}
end
end Go.Proofs.YtfjmljgbdejghaaDoorW.PrintLast
