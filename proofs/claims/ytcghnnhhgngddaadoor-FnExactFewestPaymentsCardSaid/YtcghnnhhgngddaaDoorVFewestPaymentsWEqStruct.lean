-- by a program of this session, for this claim: words that the printed texts use, cut down to what is named
import Derived.Test.YtcghnnhhgngddaaDoorVFewestPaymentsWWords
import Derived.Laws.StructEq
namespace Go.Proofs.YtcghnnhhgngddaaDoorW.PrintWords
open Go.RowKit
section
variable {P : Program} {d : Nat} {xs ys : Array Value} {f : Field} {fs : List Field} {a b : Value} {r s : Bool} {w : World}
end
end Go.Proofs.YtcghnnhhgngddaaDoorW.PrintWords
