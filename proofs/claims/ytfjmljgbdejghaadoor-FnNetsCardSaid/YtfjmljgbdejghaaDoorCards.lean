/-
  DERIVED. GIVEN WITH THE SEED: THE CARDS: each row of YtfjmljgbdejghaaDoorRows.lean that lists a variable, with what it lists TIED to the program's text (the seventh form; the later family's looks); each row that meets fmt, with fmt's text TOLD by the authors' own Lean function (tested against real Go, not proved from fmt's source: count such statements apart). THE CARD IS WHAT COUNTS. Prove the row's statement (the work); the ties are given (YtfjmljgbdejghaaDoorTie.lean); close each card by the builder's one call (the guide's Derived/Test/ToyasCard.lean, 'card_holds'). Laid BY PROGRAM, IN A SANDBOX (cutbox-door.mjs). By AI agents, Wed Nov 11 2026. No macro, syntax, notation, axiom, sorry.
-/
import Derived.Test.YtfjmljgbdejghaaDoorRows
import GoSem.ClaimSeven
namespace Go.Proofs.YtfjmljgbdejghaaDoor
namespace Rows

/-- THE TIED CARD OF 'laws.FnExactReadAmount'. -/
def fnExactReadAmountCard : Claim7 := { stood := { row := fnExactReadAmountRow, standIns := [], harness := (true, "41f950340808d6028bd17e4e4440199c6710303ef64bdc821f01187c7ae047e8"), looks := false }, kinds := [], alts := [], laidByText := true, laidKinds := [.data, .data, .data, .data, .pinned], laidTests := true, laidLooks := .later }
def FnExactReadAmountCardSaid : Prop := Claim7.holds Tryd.pinned (.plain (OpenSpec.ofChange fnExactReadAmountSpec)) fnExactReadAmountCard

/-- THE TIED CARD OF 'laws.FnExactDebtsText'. -/
def fnExactDebtsTextCard : Claim7 := { stood := { row := fnExactDebtsTextRow, standIns := [], harness := (true, "41f950340808d6028bd17e4e4440199c6710303ef64bdc821f01187c7ae047e8"), looks := false }, kinds := [], alts := [], laidByText := true, laidKinds := [.data, .data, .data], laidTests := true, laidLooks := .later }
def FnExactDebtsTextCardSaid : Prop := Claim7.holds Tryd.pinned (.plain (OpenSpec.ofChange fnExactDebtsTextSpec)) fnExactDebtsTextCard

/-- THE TIED CARD OF 'laws.FnExactReadDebts'. -/
def fnExactReadDebtsCard : Claim7 := { stood := { row := fnExactReadDebtsRow, standIns := [], harness := (true, "41f950340808d6028bd17e4e4440199c6710303ef64bdc821f01187c7ae047e8"), looks := false }, kinds := [], alts := [], laidByText := true, laidKinds := [.data, .data, .data, .data, .pinned], laidTests := true, laidLooks := .later }
def FnExactReadDebtsCardSaid : Prop := Claim7.holds Tryd.pinned (.plain (OpenSpec.ofChange fnExactReadDebtsSpec)) fnExactReadDebtsCard

/-- THE TIED CARD OF 'laws.FnExactHalfText'. -/
def fnExactHalfTextCard : Claim7 := { stood := { row := fnExactHalfTextRow, standIns := [], harness := (true, "41f950340808d6028bd17e4e4440199c6710303ef64bdc821f01187c7ae047e8"), looks := false }, kinds := [], alts := [], laidByText := true, laidKinds := [.data, .data, .data], laidTests := true, laidLooks := .later }
def FnExactHalfTextCardSaid : Prop := Claim7.holds Tryd.pinned (.plain (OpenSpec.ofChange fnExactHalfTextSpec)) fnExactHalfTextCard

/-- THE TIED CARD OF 'laws.FnExactReadHalf'. -/
def fnExactReadHalfCard : Claim7 := { stood := { row := fnExactReadHalfRow, standIns := [], harness := (true, "41f950340808d6028bd17e4e4440199c6710303ef64bdc821f01187c7ae047e8"), looks := false }, kinds := [], alts := [], laidByText := true, laidKinds := [.data, .pinned], laidTests := true, laidLooks := .later }
def FnExactReadHalfCardSaid : Prop := Claim7.holds Tryd.pinned (.plain (OpenSpec.ofChange fnExactReadHalfSpec)) fnExactReadHalfCard

/-- THE TIED CARD OF 'laws.FnAmounts'. -/
def fnAmountsCard : Claim7 := { stood := { row := fnAmountsRow, standIns := [], harness := (true, "41f950340808d6028bd17e4e4440199c6710303ef64bdc821f01187c7ae047e8"), looks := false }, kinds := [], alts := [], laidByText := true, laidKinds := [.data, .data, .data, .data, .pinned], laidTests := true, laidLooks := .later }
def FnAmountsCardSaid : Prop := Claim7.holds Tryd.pinned (.plain (OpenSpec.ofChange fnAmountsSpec)) fnAmountsCard

/-- THE TIED CARD OF 'laws.FnNets'. -/
def fnNetsCard : Claim7 := { stood := { row := fnNetsRow, standIns := [], harness := (true, "41f950340808d6028bd17e4e4440199c6710303ef64bdc821f01187c7ae047e8"), looks := false }, kinds := [], alts := [], laidByText := true, laidKinds := [.data, .data, .data, .data, .pinned], laidTests := true, laidLooks := .later }
def FnNetsCardSaid : Prop := Claim7.holds Tryd.pinned (.plain (OpenSpec.ofChange fnNetsSpec)) fnNetsCard

/-- THE SECOND FORM's CARD OF 'laws.FnExactReadAmount'. -/
def fnExactReadAmountUptoCard : Claim7 := { stood := { row := fnExactReadAmountUptoRow, standIns := [], harness := (true, "41f950340808d6028bd17e4e4440199c6710303ef64bdc821f01187c7ae047e8"), looks := false }, kinds := [], alts := [], laidByText := true, laidKinds := [.data, .data, .data, .data, .pinned], laidTests := true, laidLooks := .later }
def FnExactReadAmountUptoCardSaid : Prop := Claim7.holds Tryd.pinned (.plain (OpenSpec.upto fnExactReadAmountSpec)) fnExactReadAmountUptoCard

/-- THE SECOND FORM's CARD OF 'laws.FnExactDebtsText'. -/
def fnExactDebtsTextUptoCard : Claim7 := { stood := { row := fnExactDebtsTextUptoRow, standIns := [], harness := (true, "41f950340808d6028bd17e4e4440199c6710303ef64bdc821f01187c7ae047e8"), looks := false }, kinds := [], alts := [], laidByText := true, laidKinds := [.data, .data, .data], laidTests := true, laidLooks := .later }
def FnExactDebtsTextUptoCardSaid : Prop := Claim7.holds Tryd.pinned (.plain (OpenSpec.upto fnExactDebtsTextSpec)) fnExactDebtsTextUptoCard

/-- THE SECOND FORM's CARD OF 'laws.FnExactReadDebts'. -/
def fnExactReadDebtsUptoCard : Claim7 := { stood := { row := fnExactReadDebtsUptoRow, standIns := [], harness := (true, "41f950340808d6028bd17e4e4440199c6710303ef64bdc821f01187c7ae047e8"), looks := false }, kinds := [], alts := [], laidByText := true, laidKinds := [.data, .data, .data, .data, .pinned], laidTests := true, laidLooks := .later }
def FnExactReadDebtsUptoCardSaid : Prop := Claim7.holds Tryd.pinned (.plain (OpenSpec.upto fnExactReadDebtsSpec)) fnExactReadDebtsUptoCard

/-- THE SECOND FORM's CARD OF 'laws.FnExactHalfText'. -/
def fnExactHalfTextUptoCard : Claim7 := { stood := { row := fnExactHalfTextUptoRow, standIns := [], harness := (true, "41f950340808d6028bd17e4e4440199c6710303ef64bdc821f01187c7ae047e8"), looks := false }, kinds := [], alts := [], laidByText := true, laidKinds := [.data, .data, .data], laidTests := true, laidLooks := .later }
def FnExactHalfTextUptoCardSaid : Prop := Claim7.holds Tryd.pinned (.plain (OpenSpec.upto fnExactHalfTextSpec)) fnExactHalfTextUptoCard

/-- THE SECOND FORM's CARD OF 'laws.FnExactReadHalf'. -/
def fnExactReadHalfUptoCard : Claim7 := { stood := { row := fnExactReadHalfUptoRow, standIns := [], harness := (true, "41f950340808d6028bd17e4e4440199c6710303ef64bdc821f01187c7ae047e8"), looks := false }, kinds := [], alts := [], laidByText := true, laidKinds := [.data, .pinned], laidTests := true, laidLooks := .later }
def FnExactReadHalfUptoCardSaid : Prop := Claim7.holds Tryd.pinned (.plain (OpenSpec.upto fnExactReadHalfSpec)) fnExactReadHalfUptoCard

/-- THE SECOND FORM's CARD OF 'laws.FnAmounts'. -/
def fnAmountsUptoCard : Claim7 := { stood := { row := fnAmountsUptoRow, standIns := [], harness := (true, "41f950340808d6028bd17e4e4440199c6710303ef64bdc821f01187c7ae047e8"), looks := false }, kinds := [], alts := [], laidByText := true, laidKinds := [.data, .data, .data, .data, .pinned], laidTests := true, laidLooks := .later }
def FnAmountsUptoCardSaid : Prop := Claim7.holds Tryd.pinned (.plain (OpenSpec.upto fnAmountsSpec)) fnAmountsUptoCard

/-- THE SECOND FORM's CARD OF 'laws.FnNets'. -/
def fnNetsUptoCard : Claim7 := { stood := { row := fnNetsUptoRow, standIns := [], harness := (true, "41f950340808d6028bd17e4e4440199c6710303ef64bdc821f01187c7ae047e8"), looks := false }, kinds := [], alts := [], laidByText := true, laidKinds := [.data, .data, .data, .data, .pinned], laidTests := true, laidLooks := .later }
def FnNetsUptoCardSaid : Prop := Claim7.holds Tryd.pinned (.plain (OpenSpec.upto fnNetsSpec)) fnNetsUptoCard
end Rows
end Go.Proofs.YtfjmljgbdejghaaDoor
