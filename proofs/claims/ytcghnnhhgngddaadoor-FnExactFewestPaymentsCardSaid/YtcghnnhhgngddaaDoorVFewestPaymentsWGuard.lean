-- by a program of this session, for this claim: words that the printed texts use, cut down to what is named
import Derived.Test.YtcghnnhhgngddaaDoorVFewestPaymentsWWords
namespace Go.Proofs.YtcghnnhhgngddaaDoorW.PrintWords
open Go.RowKit
section
variable {P : Program} {ops : Array Oper} {rest : List Oper} {o : Oper} {a : Act} {Q : Exit → Act → World → Prop} {W : World}
end
end Go.Proofs.YtcghnnhhgngddaaDoorW.PrintWords
