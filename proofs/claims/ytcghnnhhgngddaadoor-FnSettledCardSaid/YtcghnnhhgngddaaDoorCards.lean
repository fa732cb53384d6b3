/-
  DERIVED. GIVEN WITH THE SEED: THE CARDS: each row of YtcghnnhhgngddaaDoorRows.lean that lists a variable, with what it lists TIED to the program's text (the seventh form; the later family's looks); each row that meets fmt, with fmt's text TOLD by the authors' own Lean function (tested against real Go, not proved from fmt's source: count such statements apart). THE CARD IS WHAT COUNTS. Prove the row's statement (the work); the ties are given (YtcghnnhhgngddaaDoorTie.lean); close each card by the builder's one call (the guide's Derived/Test/ToyasCard.lean, 'card_holds'). Laid BY PROGRAM, IN A SANDBOX (cutbox-door.mjs). By AI agents, Wed Nov 11 2026. No macro, syntax, notation, axiom, sorry.
-/
import Derived.Test.YtcghnnhhgngddaaDoorRows
import GoSem.ClaimSeven
namespace Go.Proofs.YtcghnnhhgngddaaDoor
namespace Rows

/-- THE TIED CARD OF 'laws.FnExactZeroGroups'. -/
def fnExactZeroGroupsCard : Claim7 := { stood := { row := fnExactZeroGroupsRow, standIns := [], harness := (true, "1411e5d2e475cfe3f9c65d9259dccc33583a2764a04818907c94c3403ca2d1e8"), looks := false }, kinds := [], alts := [], laidByText := true, laidKinds := [.data, .data], laidTests := true, laidLooks := .later }
def FnExactZeroGroupsCardSaid : Prop := Claim7.holds Tryd.pinned (.plain (OpenSpec.ofChange fnExactZeroGroupsSpec)) fnExactZeroGroupsCard

/-- THE TIED CARD OF 'laws.FnExactFewestPayments'. -/
def fnExactFewestPaymentsCard : Claim7 := { stood := { row := fnExactFewestPaymentsRow, standIns := [], harness := (true, "1411e5d2e475cfe3f9c65d9259dccc33583a2764a04818907c94c3403ca2d1e8"), looks := false }, kinds := [], alts := [], laidByText := true, laidKinds := [.data, .data], laidTests := true, laidLooks := .later }
def FnExactFewestPaymentsCardSaid : Prop := Claim7.holds Tryd.pinned (.plain (OpenSpec.ofChange fnExactFewestPaymentsSpec)) fnExactFewestPaymentsCard

/-- THE TIED CARD OF 'laws.FnSettled'. -/
def fnSettledCard : Claim7 := { stood := { row := fnSettledRow, standIns := [], harness := (true, "1411e5d2e475cfe3f9c65d9259dccc33583a2764a04818907c94c3403ca2d1e8"), looks := false }, kinds := [], alts := [], laidByText := true, laidKinds := [.data, .data], laidTests := true, laidLooks := .later }
def FnSettledCardSaid : Prop := Claim7.holds Tryd.pinned (.plain (OpenSpec.ofChange fnSettledSpec)) fnSettledCard

/-- THE SECOND FORM's CARD OF 'laws.FnExactZeroGroups'. -/
def fnExactZeroGroupsUptoCard : Claim7 := { stood := { row := fnExactZeroGroupsUptoRow, standIns := [], harness := (true, "1411e5d2e475cfe3f9c65d9259dccc33583a2764a04818907c94c3403ca2d1e8"), looks := false }, kinds := [], alts := [], laidByText := true, laidKinds := [.data, .data], laidTests := true, laidLooks := .later }
def FnExactZeroGroupsUptoCardSaid : Prop := Claim7.holds Tryd.pinned (.plain (OpenSpec.upto fnExactZeroGroupsSpec)) fnExactZeroGroupsUptoCard

/-- THE SECOND FORM's CARD OF 'laws.FnExactFewestPayments'. -/
def fnExactFewestPaymentsUptoCard : Claim7 := { stood := { row := fnExactFewestPaymentsUptoRow, standIns := [], harness := (true, "1411e5d2e475cfe3f9c65d9259dccc33583a2764a04818907c94c3403ca2d1e8"), looks := false }, kinds := [], alts := [], laidByText := true, laidKinds := [.data, .data], laidTests := true, laidLooks := .later }
def FnExactFewestPaymentsUptoCardSaid : Prop := Claim7.holds Tryd.pinned (.plain (OpenSpec.upto fnExactFewestPaymentsSpec)) fnExactFewestPaymentsUptoCard

/-- THE SECOND FORM's CARD OF 'laws.FnSettled'. -/
def fnSettledUptoCard : Claim7 := { stood := { row := fnSettledUptoRow, standIns := [], harness := (true, "1411e5d2e475cfe3f9c65d9259dccc33583a2764a04818907c94c3403ca2d1e8"), looks := false }, kinds := [], alts := [], laidByText := true, laidKinds := [.data, .data], laidTests := true, laidLooks := .later }
def FnSettledUptoCardSaid : Prop := Claim7.holds Tryd.pinned (.plain (OpenSpec.upto fnSettledSpec)) fnSettledUptoCard
end Rows
end Go.Proofs.YtcghnnhhgngddaaDoor
