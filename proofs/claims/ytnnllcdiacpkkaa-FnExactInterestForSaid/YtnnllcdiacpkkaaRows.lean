/-
  No cell of these rows narrows 'for every input' (looked for: loops, veiled, ifaces, maps, wideKeys, modest, calm, conditions, laid).
  DERIVED. THE GIVEN ROWS OF THIS SEAT. 12 by the template 'for every input the law returns true; each argument reads behind the call as it read before'; 0 by the template 'total and deterministic' (their statements: YtnnllcdiacpkkaaTotals.lean).
  GIVEN WITH THE SEED: the statements are not yours to turn. If you find one false, say at which input.
  Laid BY PROGRAM, IN A SANDBOX (cutbox-rows.mjs): the forced cells as the released guide's own fill.sh prints them over the translation 8f158786a129f978… (all of the seat's roots in one cut). By AI agents, Wed Nov 11 2026. No macro, syntax, notation, axiom, sorry.
-/
import Derived.Test.YtnnllcdiacpkkaaChecked
import GoSem.Claim
import GoSem.ClaimJoined
import GoSem.ClaimMapViews
import Derived.JoinedTies
import Derived.KernelRfl
namespace Go.Proofs.Ytnnllcdiacpkkaa
/- THE CELL 'sum', in the pinned program and in every row, IS THE sha256 OF THE DUMP (.gsa) THAT YtnnllcdiacpkkaaProg.lean LOADS. Nothing in Lean hashes anything: it is a label: what it is worth is what the hold of that sum in a sandbox is worth. -/
noncomputable def Try.pinned : Pinned := { name := "ytnnllcdiacpkkaa", sum := "8f158786a129f978813c79ce73942cfa1c7f8d0a6476c5949d24b398b0e19382", checked := Try.checked }
namespace Rows
def none {H : Type} : Left H := { results := [], args := [] }

/-- 'laws.FnExactConstants': WHATEVER THE INPUT: true; the input reads as it did. -/
def fnExactConstantsSpec : ChangeSpec := { name := "fnExactConstants", fn := fun _ => fun
  | [] => { results := [.lit (.bool true)], args := [] }
  | _ => none }
def fnExactConstantsRow : OpenClaim := { program := "ytnnllcdiacpkkaa", sum := "8f158786a129f978813c79ce73942cfa1c7f8d0a6476c5949d24b398b0e19382", func := "loop.example/g01263/laws.FnExactConstants", spec := "fnExactConstants", apart := false }
def FnExactConstantsSaid : Prop := fnExactConstantsRow.holds Try.pinned (OpenSpec.ofChange fnExactConstantsSpec)

/-- ITS FALSE NEIGHBOUR: 'it returns false'. Refute it at one input. -/
def fnExactConstantsWrong : ChangeSpec := { name := "fnExactConstants", fn := fun _ => fun
  | [] => { results := [.lit (.bool false)], args := [] }
  | _ => none }
def FnExactConstantsWrongFalsely : Prop := fnExactConstantsRow.holds Try.pinned (OpenSpec.ofChange fnExactConstantsWrong)

/-- 'laws.FnExactValidRate': WHATEVER THE INPUT: true; the input reads as it did. -/
def fnExactValidRateSpec : ChangeSpec := { name := "fnExactValidRate", fn := fun _ => fun
  | [d] => { results := [.lit (.bool true)], args := [d] }
  | _ => none }
def fnExactValidRateRow : OpenClaim := { program := "ytnnllcdiacpkkaa", sum := "8f158786a129f978813c79ce73942cfa1c7f8d0a6476c5949d24b398b0e19382", func := "loop.example/g01263/laws.FnExactValidRate", spec := "fnExactValidRate", apart := false }
def FnExactValidRateSaid : Prop := fnExactValidRateRow.holds Try.pinned (OpenSpec.ofChange fnExactValidRateSpec)

/-- ITS FALSE NEIGHBOUR: 'it returns false'. Refute it at one input. -/
def fnExactValidRateWrong : ChangeSpec := { name := "fnExactValidRate", fn := fun _ => fun
  | [d] => { results := [.lit (.bool false)], args := [d] }
  | _ => none }
def FnExactValidRateWrongFalsely : Prop := fnExactValidRateRow.holds Try.pinned (OpenSpec.ofChange fnExactValidRateWrong)

/-- 'laws.FnExactCodeName': WHATEVER THE INPUT: true; the input reads as it did. -/
def fnExactCodeNameSpec : ChangeSpec := { name := "fnExactCodeName", fn := fun _ => fun
  | [d] => { results := [.lit (.bool true)], args := [d] }
  | _ => none }
def fnExactCodeNameRow : OpenClaim := { program := "ytnnllcdiacpkkaa", sum := "8f158786a129f978813c79ce73942cfa1c7f8d0a6476c5949d24b398b0e19382", func := "loop.example/g01263/laws.FnExactCodeName", spec := "fnExactCodeName", apart := false }
def FnExactCodeNameSaid : Prop := fnExactCodeNameRow.holds Try.pinned (OpenSpec.ofChange fnExactCodeNameSpec)

/-- ITS FALSE NEIGHBOUR: 'it returns false'. Refute it at one input. -/
def fnExactCodeNameWrong : ChangeSpec := { name := "fnExactCodeName", fn := fun _ => fun
  | [d] => { results := [.lit (.bool false)], args := [d] }
  | _ => none }
def FnExactCodeNameWrongFalsely : Prop := fnExactCodeNameRow.holds Try.pinned (OpenSpec.ofChange fnExactCodeNameWrong)

/-- 'laws.FnExactWidthOf': WHATEVER THE INPUT: true; the input reads as it did. -/
def fnExactWidthOfSpec : ChangeSpec := { name := "fnExactWidthOf", fn := fun _ => fun
  | [d] => { results := [.lit (.bool true)], args := [d] }
  | _ => none }
def fnExactWidthOfRow : OpenClaim := { program := "ytnnllcdiacpkkaa", sum := "8f158786a129f978813c79ce73942cfa1c7f8d0a6476c5949d24b398b0e19382", func := "loop.example/g01263/laws.FnExactWidthOf", spec := "fnExactWidthOf", apart := false }
def FnExactWidthOfSaid : Prop := fnExactWidthOfRow.holds Try.pinned (OpenSpec.ofChange fnExactWidthOfSpec)

/-- ITS FALSE NEIGHBOUR: 'it returns false'. Refute it at one input. -/
def fnExactWidthOfWrong : ChangeSpec := { name := "fnExactWidthOf", fn := fun _ => fun
  | [d] => { results := [.lit (.bool false)], args := [d] }
  | _ => none }
def FnExactWidthOfWrongFalsely : Prop := fnExactWidthOfRow.holds Try.pinned (OpenSpec.ofChange fnExactWidthOfWrong)

/-- 'laws.FnExactWorthOf': WHATEVER THE INPUT: true; the input reads as it did. -/
def fnExactWorthOfSpec : ChangeSpec := { name := "fnExactWorthOf", fn := fun _ => fun
  | [d] => { results := [.lit (.bool true)], args := [d] }
  | _ => none }
def fnExactWorthOfRow : OpenClaim := { program := "ytnnllcdiacpkkaa", sum := "8f158786a129f978813c79ce73942cfa1c7f8d0a6476c5949d24b398b0e19382", func := "loop.example/g01263/laws.FnExactWorthOf", spec := "fnExactWorthOf", apart := false }
def FnExactWorthOfSaid : Prop := fnExactWorthOfRow.holds Try.pinned (OpenSpec.ofChange fnExactWorthOfSpec)

/-- ITS FALSE NEIGHBOUR: 'it returns false'. Refute it at one input. -/
def fnExactWorthOfWrong : ChangeSpec := { name := "fnExactWorthOf", fn := fun _ => fun
  | [d] => { results := [.lit (.bool false)], args := [d] }
  | _ => none }
def FnExactWorthOfWrongFalsely : Prop := fnExactWorthOfRow.holds Try.pinned (OpenSpec.ofChange fnExactWorthOfWrong)

/-- 'laws.FnExactValidLoan': WHATEVER THE INPUT: true; the input reads as it did. -/
def fnExactValidLoanSpec : ChangeSpec := { name := "fnExactValidLoan", fn := fun _ => fun
  | [d] => { results := [.lit (.bool true)], args := [d] }
  | _ => none }
def fnExactValidLoanRow : OpenClaim := { program := "ytnnllcdiacpkkaa", sum := "8f158786a129f978813c79ce73942cfa1c7f8d0a6476c5949d24b398b0e19382", func := "loop.example/g01263/laws.FnExactValidLoan", spec := "fnExactValidLoan", apart := false }
def FnExactValidLoanSaid : Prop := fnExactValidLoanRow.holds Try.pinned (OpenSpec.ofChange fnExactValidLoanSpec)

/-- ITS FALSE NEIGHBOUR: 'it returns false'. Refute it at one input. -/
def fnExactValidLoanWrong : ChangeSpec := { name := "fnExactValidLoan", fn := fun _ => fun
  | [d] => { results := [.lit (.bool false)], args := [d] }
  | _ => none }
def FnExactValidLoanWrongFalsely : Prop := fnExactValidLoanRow.holds Try.pinned (OpenSpec.ofChange fnExactValidLoanWrong)

/-- 'laws.FnExactCompareRates': WHATEVER THE INPUT: true; the input reads as it did. -/
def fnExactCompareRatesSpec : ChangeSpec := { name := "fnExactCompareRates", fn := fun _ => fun
  | [d1, d2] => { results := [.lit (.bool true)], args := [d1, d2] }
  | _ => none }
def fnExactCompareRatesRow : OpenClaim := { program := "ytnnllcdiacpkkaa", sum := "8f158786a129f978813c79ce73942cfa1c7f8d0a6476c5949d24b398b0e19382", func := "loop.example/g01263/laws.FnExactCompareRates", spec := "fnExactCompareRates", apart := false }
def FnExactCompareRatesSaid : Prop := fnExactCompareRatesRow.holds Try.pinned (OpenSpec.ofChange fnExactCompareRatesSpec)

/-- ITS FALSE NEIGHBOUR: 'it returns false'. Refute it at one input. -/
def fnExactCompareRatesWrong : ChangeSpec := { name := "fnExactCompareRates", fn := fun _ => fun
  | [d1, d2] => { results := [.lit (.bool false)], args := [d1, d2] }
  | _ => none }
def FnExactCompareRatesWrongFalsely : Prop := fnExactCompareRatesRow.holds Try.pinned (OpenSpec.ofChange fnExactCompareRatesWrong)

/-- 'laws.FnExactInterestFor': WHATEVER THE INPUT: true; the input reads as it did. -/
def fnExactInterestForSpec : ChangeSpec := { name := "fnExactInterestFor", fn := fun _ => fun
  | [d1, d2, d3] => { results := [.lit (.bool true)], args := [d1, d2, d3] }
  | _ => none }
def fnExactInterestForRow : OpenClaim := { program := "ytnnllcdiacpkkaa", sum := "8f158786a129f978813c79ce73942cfa1c7f8d0a6476c5949d24b398b0e19382", func := "loop.example/g01263/laws.FnExactInterestFor", spec := "fnExactInterestFor", apart := false }
def FnExactInterestForSaid : Prop := fnExactInterestForRow.holds Try.pinned (OpenSpec.ofChange fnExactInterestForSpec)

/-- ITS FALSE NEIGHBOUR: 'it returns false'. Refute it at one input. -/
def fnExactInterestForWrong : ChangeSpec := { name := "fnExactInterestFor", fn := fun _ => fun
  | [d1, d2, d3] => { results := [.lit (.bool false)], args := [d1, d2, d3] }
  | _ => none }
def FnExactInterestForWrongFalsely : Prop := fnExactInterestForRow.holds Try.pinned (OpenSpec.ofChange fnExactInterestForWrong)

/-- 'laws.FnExactSameDebts': WHATEVER THE INPUT: true; the input reads as it did. -/
def fnExactSameDebtsSpec : ChangeSpec := { name := "fnExactSameDebts", fn := fun _ => fun
  | [d1, d2] => { results := [.lit (.bool true)], args := [d1, d2] }
  | _ => none }
def fnExactSameDebtsRow : OpenClaim := { program := "ytnnllcdiacpkkaa", sum := "8f158786a129f978813c79ce73942cfa1c7f8d0a6476c5949d24b398b0e19382", func := "loop.example/g01263/laws.FnExactSameDebts", spec := "fnExactSameDebts", apart := false }
def FnExactSameDebtsSaid : Prop := fnExactSameDebtsRow.holds Try.pinned (OpenSpec.ofChange fnExactSameDebtsSpec)

/-- ITS FALSE NEIGHBOUR: 'it returns false'. Refute it at one input. -/
def fnExactSameDebtsWrong : ChangeSpec := { name := "fnExactSameDebts", fn := fun _ => fun
  | [d1, d2] => { results := [.lit (.bool false)], args := [d1, d2] }
  | _ => none }
def FnExactSameDebtsWrongFalsely : Prop := fnExactSameDebtsRow.holds Try.pinned (OpenSpec.ofChange fnExactSameDebtsWrong)

/-- 'laws.FnExactValidDebts': WHATEVER THE INPUT: true; the input reads as it did. -/
def fnExactValidDebtsSpec : ChangeSpec := { name := "fnExactValidDebts", fn := fun _ => fun
  | [d1, d2] => { results := [.lit (.bool true)], args := [d1, d2] }
  | _ => none }
def fnExactValidDebtsRow : OpenClaim := { program := "ytnnllcdiacpkkaa", sum := "8f158786a129f978813c79ce73942cfa1c7f8d0a6476c5949d24b398b0e19382", func := "loop.example/g01263/laws.FnExactValidDebts", spec := "fnExactValidDebts", apart := false }
def FnExactValidDebtsSaid : Prop := fnExactValidDebtsRow.holds Try.pinned (OpenSpec.ofChange fnExactValidDebtsSpec)

/-- ITS FALSE NEIGHBOUR: 'it returns false'. Refute it at one input. -/
def fnExactValidDebtsWrong : ChangeSpec := { name := "fnExactValidDebts", fn := fun _ => fun
  | [d1, d2] => { results := [.lit (.bool false)], args := [d1, d2] }
  | _ => none }
def FnExactValidDebtsWrongFalsely : Prop := fnExactValidDebtsRow.holds Try.pinned (OpenSpec.ofChange fnExactValidDebtsWrong)

/-- 'laws.FnExactTotalOf': WHATEVER THE INPUT: true; the input reads as it did. -/
def fnExactTotalOfSpec : ChangeSpec := { name := "fnExactTotalOf", fn := fun _ => fun
  | [d] => { results := [.lit (.bool true)], args := [d] }
  | _ => none }
def fnExactTotalOfRow : OpenClaim := { program := "ytnnllcdiacpkkaa", sum := "8f158786a129f978813c79ce73942cfa1c7f8d0a6476c5949d24b398b0e19382", func := "loop.example/g01263/laws.FnExactTotalOf", spec := "fnExactTotalOf", apart := false }
def FnExactTotalOfSaid : Prop := fnExactTotalOfRow.holds Try.pinned (OpenSpec.ofChange fnExactTotalOfSpec)

/-- ITS FALSE NEIGHBOUR: 'it returns false'. Refute it at one input. -/
def fnExactTotalOfWrong : ChangeSpec := { name := "fnExactTotalOf", fn := fun _ => fun
  | [d] => { results := [.lit (.bool false)], args := [d] }
  | _ => none }
def FnExactTotalOfWrongFalsely : Prop := fnExactTotalOfRow.holds Try.pinned (OpenSpec.ofChange fnExactTotalOfWrong)

/-- 'laws.FnExactRateFor': WHATEVER THE INPUT: true; the input reads as it did. -/
def fnExactRateForSpec : ChangeSpec := { name := "fnExactRateFor", fn := fun _ => fun
  | [d1, d2, d3] => { results := [.lit (.bool true)], args := [d1, d2, d3] }
  | _ => none }
def fnExactRateForRow : OpenClaim := { program := "ytnnllcdiacpkkaa", sum := "8f158786a129f978813c79ce73942cfa1c7f8d0a6476c5949d24b398b0e19382", func := "loop.example/g01263/laws.FnExactRateFor", spec := "fnExactRateFor", apart := false }
def FnExactRateForSaid : Prop := fnExactRateForRow.holds Try.pinned (OpenSpec.ofChange fnExactRateForSpec)

/-- ITS FALSE NEIGHBOUR: 'it returns false'. Refute it at one input. -/
def fnExactRateForWrong : ChangeSpec := { name := "fnExactRateFor", fn := fun _ => fun
  | [d1, d2, d3] => { results := [.lit (.bool false)], args := [d1, d2, d3] }
  | _ => none }
def FnExactRateForWrongFalsely : Prop := fnExactRateForRow.holds Try.pinned (OpenSpec.ofChange fnExactRateForWrong)

/- THE SECOND FORM. 'bulk': how many values and letters a reading holds, each counted each time it is reached (what is shared counts as often as it is met; a slice's spare places count too). A statement '..UptoSaid' is the law's where the arguments, and the package variables that the reading takes, are together of bulk at most 1048576: NARROWER than '..Said'. Prove '..Said' where nothing that the law and all that it calls make is longer than what came in: it says more and counts as full. Else prove '..UptoSaid'. A law counts once. -/
mutual
def uptoBulk {H : Type} : DataW H → Nat
  | .lit (.string bytes) => bytes.length + 1
  | .lit _ => 1
  | .nil => 1
  | .ptr d => uptoBulk d + 1
  | .slice elems spare => uptoBulkAll elems + uptoBulkAll spare + 1
  | .agg parts => uptoBulkAll parts + 1
  | .iface _ d => uptoBulk d + 1
  | .map entries => uptoBulkEntries entries + 1
  | .held _ => 1
def uptoBulkAll {H : Type} : List (DataW H) → Nat
  | [] => 0
  | d :: r => uptoBulk d + uptoBulkAll r
def uptoBulkEntries {H : Type} : List (Lit × DataW H) → Nat
  | [] => 0
  | x :: r => uptoBulkEntry x + uptoBulkEntries r
def uptoBulkEntry {H : Type} : Lit × DataW H → Nat
  | (.string bytes, d) => bytes.length + uptoBulk d + 1
  | (_, d) => uptoBulk d + 1
 end
def uptoSmall : (H : Type) → List (DataW H) → Bool := fun _ ds => decide (uptoBulkAll ds ≤ 1048576)
def OpenSpec.upto (s : _root_.Go.ChangeSpec) : _root_.Go.OpenSpec := { _root_.Go.OpenSpec.ofChange s with cond := some uptoSmall }

/-- 'laws.FnExactConstants', WHERE WHAT IT READS IS OF BULK AT MOST 1048576: true; the input reads as it did. -/
def fnExactConstantsUptoRow : OpenClaim := { program := "ytnnllcdiacpkkaa", sum := "8f158786a129f978813c79ce73942cfa1c7f8d0a6476c5949d24b398b0e19382", func := "loop.example/g01263/laws.FnExactConstants", spec := "fnExactConstants", apart := false, narrowed := true }
def FnExactConstantsUptoSaid : Prop := fnExactConstantsUptoRow.holds Try.pinned (OpenSpec.upto fnExactConstantsSpec)

/-- 'laws.FnExactValidRate', WHERE WHAT IT READS IS OF BULK AT MOST 1048576: true; the input reads as it did. -/
def fnExactValidRateUptoRow : OpenClaim := { program := "ytnnllcdiacpkkaa", sum := "8f158786a129f978813c79ce73942cfa1c7f8d0a6476c5949d24b398b0e19382", func := "loop.example/g01263/laws.FnExactValidRate", spec := "fnExactValidRate", apart := false, narrowed := true }
def FnExactValidRateUptoSaid : Prop := fnExactValidRateUptoRow.holds Try.pinned (OpenSpec.upto fnExactValidRateSpec)

/-- 'laws.FnExactCodeName', WHERE WHAT IT READS IS OF BULK AT MOST 1048576: true; the input reads as it did. -/
def fnExactCodeNameUptoRow : OpenClaim := { program := "ytnnllcdiacpkkaa", sum := "8f158786a129f978813c79ce73942cfa1c7f8d0a6476c5949d24b398b0e19382", func := "loop.example/g01263/laws.FnExactCodeName", spec := "fnExactCodeName", apart := false, narrowed := true }
def FnExactCodeNameUptoSaid : Prop := fnExactCodeNameUptoRow.holds Try.pinned (OpenSpec.upto fnExactCodeNameSpec)

/-- 'laws.FnExactWidthOf', WHERE WHAT IT READS IS OF BULK AT MOST 1048576: true; the input reads as it did. -/
def fnExactWidthOfUptoRow : OpenClaim := { program := "ytnnllcdiacpkkaa", sum := "8f158786a129f978813c79ce73942cfa1c7f8d0a6476c5949d24b398b0e19382", func := "loop.example/g01263/laws.FnExactWidthOf", spec := "fnExactWidthOf", apart := false, narrowed := true }
def FnExactWidthOfUptoSaid : Prop := fnExactWidthOfUptoRow.holds Try.pinned (OpenSpec.upto fnExactWidthOfSpec)

/-- 'laws.FnExactWorthOf', WHERE WHAT IT READS IS OF BULK AT MOST 1048576: true; the input reads as it did. -/
def fnExactWorthOfUptoRow : OpenClaim := { program := "ytnnllcdiacpkkaa", sum := "8f158786a129f978813c79ce73942cfa1c7f8d0a6476c5949d24b398b0e19382", func := "loop.example/g01263/laws.FnExactWorthOf", spec := "fnExactWorthOf", apart := false, narrowed := true }
def FnExactWorthOfUptoSaid : Prop := fnExactWorthOfUptoRow.holds Try.pinned (OpenSpec.upto fnExactWorthOfSpec)

/-- 'laws.FnExactValidLoan', WHERE WHAT IT READS IS OF BULK AT MOST 1048576: true; the input reads as it did. -/
def fnExactValidLoanUptoRow : OpenClaim := { program := "ytnnllcdiacpkkaa", sum := "8f158786a129f978813c79ce73942cfa1c7f8d0a6476c5949d24b398b0e19382", func := "loop.example/g01263/laws.FnExactValidLoan", spec := "fnExactValidLoan", apart := false, narrowed := true }
def FnExactValidLoanUptoSaid : Prop := fnExactValidLoanUptoRow.holds Try.pinned (OpenSpec.upto fnExactValidLoanSpec)

/-- 'laws.FnExactCompareRates', WHERE WHAT IT READS IS OF BULK AT MOST 1048576: true; the input reads as it did. -/
def fnExactCompareRatesUptoRow : OpenClaim := { program := "ytnnllcdiacpkkaa", sum := "8f158786a129f978813c79ce73942cfa1c7f8d0a6476c5949d24b398b0e19382", func := "loop.example/g01263/laws.FnExactCompareRates", spec := "fnExactCompareRates", apart := false, narrowed := true }
def FnExactCompareRatesUptoSaid : Prop := fnExactCompareRatesUptoRow.holds Try.pinned (OpenSpec.upto fnExactCompareRatesSpec)

/-- 'laws.FnExactInterestFor', WHERE WHAT IT READS IS OF BULK AT MOST 1048576: true; the input reads as it did. -/
def fnExactInterestForUptoRow : OpenClaim := { program := "ytnnllcdiacpkkaa", sum := "8f158786a129f978813c79ce73942cfa1c7f8d0a6476c5949d24b398b0e19382", func := "loop.example/g01263/laws.FnExactInterestFor", spec := "fnExactInterestFor", apart := false, narrowed := true }
def FnExactInterestForUptoSaid : Prop := fnExactInterestForUptoRow.holds Try.pinned (OpenSpec.upto fnExactInterestForSpec)

/-- 'laws.FnExactSameDebts', WHERE WHAT IT READS IS OF BULK AT MOST 1048576: true; the input reads as it did. -/
def fnExactSameDebtsUptoRow : OpenClaim := { program := "ytnnllcdiacpkkaa", sum := "8f158786a129f978813c79ce73942cfa1c7f8d0a6476c5949d24b398b0e19382", func := "loop.example/g01263/laws.FnExactSameDebts", spec := "fnExactSameDebts", apart := false, narrowed := true }
def FnExactSameDebtsUptoSaid : Prop := fnExactSameDebtsUptoRow.holds Try.pinned (OpenSpec.upto fnExactSameDebtsSpec)

/-- 'laws.FnExactValidDebts', WHERE WHAT IT READS IS OF BULK AT MOST 1048576: true; the input reads as it did. -/
def fnExactValidDebtsUptoRow : OpenClaim := { program := "ytnnllcdiacpkkaa", sum := "8f158786a129f978813c79ce73942cfa1c7f8d0a6476c5949d24b398b0e19382", func := "loop.example/g01263/laws.FnExactValidDebts", spec := "fnExactValidDebts", apart := false, narrowed := true }
def FnExactValidDebtsUptoSaid : Prop := fnExactValidDebtsUptoRow.holds Try.pinned (OpenSpec.upto fnExactValidDebtsSpec)

/-- 'laws.FnExactTotalOf', WHERE WHAT IT READS IS OF BULK AT MOST 1048576: true; the input reads as it did. -/
def fnExactTotalOfUptoRow : OpenClaim := { program := "ytnnllcdiacpkkaa", sum := "8f158786a129f978813c79ce73942cfa1c7f8d0a6476c5949d24b398b0e19382", func := "loop.example/g01263/laws.FnExactTotalOf", spec := "fnExactTotalOf", apart := false, narrowed := true }
def FnExactTotalOfUptoSaid : Prop := fnExactTotalOfUptoRow.holds Try.pinned (OpenSpec.upto fnExactTotalOfSpec)

/-- 'laws.FnExactRateFor', WHERE WHAT IT READS IS OF BULK AT MOST 1048576: true; the input reads as it did. -/
def fnExactRateForUptoRow : OpenClaim := { program := "ytnnllcdiacpkkaa", sum := "8f158786a129f978813c79ce73942cfa1c7f8d0a6476c5949d24b398b0e19382", func := "loop.example/g01263/laws.FnExactRateFor", spec := "fnExactRateFor", apart := false, narrowed := true }
def FnExactRateForUptoSaid : Prop := fnExactRateForUptoRow.holds Try.pinned (OpenSpec.upto fnExactRateForSpec)

end Rows
end Go.Proofs.Ytnnllcdiacpkkaa
