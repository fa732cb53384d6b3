-- by a program of this session, for this claim: words that the printed texts use, cut down to what is named
import Derived.Test.YtcghnnhhgngddaaDoorVSettledWN
namespace Go.Proofs.YtcghnnhhgngddaaDoorW.PrintWords
open Go.RowKit
namespace Kd
section
variable {α : Type} {d : Kd α} {W : World} {g n : Nat} {S ok : Nat → Prop} {A : Option Addr} {ad : Addr} {xs : List α}
end
end Kd
end Go.Proofs.YtcghnnhhgngddaaDoorW.PrintWords
