/-
  DERIVED. GIVEN WITH THE SEED: THE CARDS: each row of YtcblnnfodpglaaaGreatDoorRows.lean that lists a variable, with what it lists TIED to the program's text (the seventh form; the later family's looks); each row that meets fmt, with fmt's text TOLD by the authors' own Lean function (tested against real Go, not proved from fmt's source: count such statements apart). THE CARD IS WHAT COUNTS. Prove the row's statement (the work); the ties are given (YtcblnnfodpglaaaGreatDoorTie.lean); close each card by the builder's one call (the guide's Derived/Test/ToyasCard.lean, 'card_holds'). Laid BY PROGRAM, IN A SANDBOX (cutbox-door.mjs). By AI agents, Wed Nov 11 2026. No macro, syntax, notation, axiom, sorry.
-/
import Derived.Test.YtcblnnfodpglaaaGreatDoorRows
import GoSem.ClaimSeven
namespace Go.Proofs.YtcblnnfodpglaaaGreatDoor
namespace Rows

/-- THE TIED CARD OF 'laws.FnNotched'. -/
def fnNotchedCard : Claim7 := { stood := { row := fnNotchedRow, standIns := [], harness := (true, "1020c94a5ce325ab419f3cb06528dfb59cc8c852dbd8af87685b422824cddac2"), looks := false }, kinds := [], alts := [], laidByText := true, laidKinds := [.data, .data, .data, .data, .pinned], laidTests := true, laidLooks := .later }
def FnNotchedCardSaid : Prop := Claim7.holds Tryz.pinned (.plain (OpenSpec.ofChange fnNotchedSpec)) fnNotchedCard

/-- THE SECOND FORM's CARD OF 'laws.FnNotched'. -/
def fnNotchedUptoCard : Claim7 := { stood := { row := fnNotchedUptoRow, standIns := [], harness := (true, "1020c94a5ce325ab419f3cb06528dfb59cc8c852dbd8af87685b422824cddac2"), looks := false }, kinds := [], alts := [], laidByText := true, laidKinds := [.data, .data, .data, .data, .pinned], laidTests := true, laidLooks := .later }
def FnNotchedUptoCardSaid : Prop := Claim7.holds Tryz.pinned (.plain (OpenSpec.upto fnNotchedSpec)) fnNotchedUptoCard
end Rows
end Go.Proofs.YtcblnnfodpglaaaGreatDoor
