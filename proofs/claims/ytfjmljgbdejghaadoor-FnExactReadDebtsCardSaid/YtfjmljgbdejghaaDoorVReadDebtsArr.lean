-- by a program of this session, for this claim: words that the printed texts use, cut down to what is named
import Derived.Test.YtfjmljgbdejghaaDoorVReadDebtsWMore
import Derived.Test.YtfjmljgbdejghaaDoorVReadDebtsWWords
import Derived.Deep.Slices
import Derived.OpenShut
import Derived.ChangeArms
import Derived.WideShapes
import Derived.Below
import Derived.Deep.MidRow
import Derived.Laws.Rows
import Derived.Lib.SliceRun
namespace Go.Proofs.YtfjmljgbdejghaaDoor.Arr
open Go.RowKit Go.WideShapes Go.Proofs.YtfjmljgbdejghaaDoorW.PrintWords
set_option linter.unusedVariables false
set_option linter.unusedSimpArgs false
section
variable {H : Type} {enc : TypeId × Value → H} {P : Program} {w : World} {base : Nat} {spare : Nat → Bool} {held : Bool} {fuel : Nat} {t : TypeId} {cs : List Value} {x : DataW H × List MemPlace}
end
theorem below_of_drawn {W W' : World} (h : Drawn0 W W') : Below W.heap.size W W' := by
  obtain ⟨n, rfl⟩ := h
  exact pw_below_drewN (Below.refl _ _) n
section
variable {P : Program} {ops : Array Oper} {rest : List Oper} {o : Oper} {a : Act} {W : World} {Q : Exit → Act → World → Prop}
end
section
variable {P : Program} {ops : Array Oper} {rest : List Oper} {o : Oper} {a : Act} {W : World} {Q : Exit → Act → World → Prop}
end
section
variable {P : Program} {ops : Array Oper} {rest : List Oper} {o : Oper} {a : Act} {W : World} {Q : Exit → Act → World → Prop}
end
section
variable {P : Program} {w : World}
end
section
variable {P : Program} {o : Oper} {W : World}
end
end Go.Proofs.YtfjmljgbdejghaaDoor.Arr
