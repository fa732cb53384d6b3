-- by a program of this session, for this claim: words that the printed texts use, cut down to what is named
import Derived.Test.YtcghnnhhgngddaaDoorVSettledWTab
namespace Go.Proofs.YtcghnnhhgngddaaDoorW.PrintLast
section
variable {P : Program} {ops : Array Oper} {Q : Exit → Act → World → Prop} {md : Region.Mode} {S : World → Prop} {ds : List Nat} {T : Bool × List (List Nat × List Nat)}
end
end Go.Proofs.YtcghnnhhgngddaaDoorW.PrintLast
