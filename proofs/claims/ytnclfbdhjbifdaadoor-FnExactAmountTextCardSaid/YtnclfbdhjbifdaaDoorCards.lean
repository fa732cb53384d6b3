/-
  DERIVED. GIVEN WITH THE SEED: THE CARDS: each row of YtnclfbdhjbifdaaDoorRows.lean that lists a variable, with what it lists TIED to the program's text (the seventh form; the later family's looks); each row that meets fmt, with fmt's text TOLD by the authors' own Lean function (tested against real Go, not proved from fmt's source: count such statements apart). THE CARD IS WHAT COUNTS. Prove the row's statement (the work); the ties are given (YtnclfbdhjbifdaaDoorTie.lean); close each card by the builder's one call (the guide's Derived/Test/ToyasCard.lean, 'card_holds'). Laid BY PROGRAM, IN A SANDBOX (cutbox-door.mjs). By AI agents, Wed Nov 11 2026. No macro, syntax, notation, axiom, sorry.
-/
import Derived.Test.YtnclfbdhjbifdaaDoorRows
import GoSem.ClaimSeven
namespace Go.Proofs.YtnclfbdhjbifdaaDoor
namespace Rows

/-- THE TIED CARD OF 'laws.FnExactAmountText'. -/
def fnExactAmountTextCard : Claim7 := { stood := { row := fnExactAmountTextRow, standIns := [], harness := (true, "fb718910639dce956ae9062cf02b0a6924637eb285e5d39c60ea96618234ed9f"), looks := false }, kinds := [], alts := [], laidByText := true, laidKinds := [.data, .data, .data], laidTests := true, laidLooks := .later }
def FnExactAmountTextCardSaid : Prop := Claim7.holds Tryd.pinned (.plain (OpenSpec.ofChange fnExactAmountTextSpec)) fnExactAmountTextCard

/-- THE SECOND FORM's CARD OF 'laws.FnExactAmountText'. -/
def fnExactAmountTextUptoCard : Claim7 := { stood := { row := fnExactAmountTextUptoRow, standIns := [], harness := (true, "fb718910639dce956ae9062cf02b0a6924637eb285e5d39c60ea96618234ed9f"), looks := false }, kinds := [], alts := [], laidByText := true, laidKinds := [.data, .data, .data], laidTests := true, laidLooks := .later }
def FnExactAmountTextUptoCardSaid : Prop := Claim7.holds Tryd.pinned (.plain (OpenSpec.upto fnExactAmountTextSpec)) fnExactAmountTextUptoCard
end Rows
end Go.Proofs.YtnclfbdhjbifdaaDoor
