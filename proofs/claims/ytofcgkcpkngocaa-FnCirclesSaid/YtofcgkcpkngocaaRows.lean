/-
  No cell of these rows narrows 'for every input' (looked for: loops, veiled, ifaces, maps, wideKeys, modest, calm, conditions, laid).
  DERIVED. THE GIVEN ROWS OF THIS SEAT. 12 by the template 'for every input the law returns true; each argument reads behind the call as it read before'; 0 by the template 'total and deterministic' (their statements: YtofcgkcpkngocaaTotals.lean).
  GIVEN WITH THE SEED: the statements are not yours to turn. If you find one false, say at which input.
  Laid BY PROGRAM, IN A SANDBOX (cutbox-rows.mjs): the forced cells as the released guide's own fill.sh prints them over the translation bef15136ba427b80… (all of the seat's roots in one cut). By AI agents, Wed Nov 11 2026. No macro, syntax, notation, axiom, sorry.
-/
import Derived.Test.YtofcgkcpkngocaaChecked
import GoSem.Claim
import GoSem.ClaimJoined
import GoSem.ClaimMapViews
import Derived.JoinedTies
import Derived.KernelRfl
namespace Go.Proofs.Ytofcgkcpkngocaa
/- THE CELL 'sum', in the pinned program and in every row, IS THE sha256 OF THE DUMP (.gsa) THAT YtofcgkcpkngocaaProg.lean LOADS. Nothing in Lean hashes anything: it is a label: what it is worth is what the hold of that sum in a sandbox is worth. -/
noncomputable def Try.pinned : Pinned := { name := "ytofcgkcpkngocaa", sum := "bef15136ba427b8067b01025b0320507fced3cb8d0f46adb686c79e65d8d7236", checked := Try.checked }
namespace Rows
def none {H : Type} : Left H := { results := [], args := [] }

/-- 'laws.FnExactOwedBetween': WHATEVER THE INPUT: true; the input reads as it did. -/
def fnExactOwedBetweenSpec : ChangeSpec := { name := "fnExactOwedBetween", fn := fun _ => fun
  | [d1, d2, d3, d4] => { results := [.lit (.bool true)], args := [d1, d2, d3, d4] }
  | _ => none }
def fnExactOwedBetweenRow : OpenClaim := { program := "ytofcgkcpkngocaa", sum := "bef15136ba427b8067b01025b0320507fced3cb8d0f46adb686c79e65d8d7236", func := "loop.example/g01263/laws.FnExactOwedBetween", spec := "fnExactOwedBetween", apart := false }
def FnExactOwedBetweenSaid : Prop := fnExactOwedBetweenRow.holds Try.pinned (OpenSpec.ofChange fnExactOwedBetweenSpec)

/-- ITS FALSE NEIGHBOUR: 'it returns false'. Refute it at one input. -/
def fnExactOwedBetweenWrong : ChangeSpec := { name := "fnExactOwedBetween", fn := fun _ => fun
  | [d1, d2, d3, d4] => { results := [.lit (.bool false)], args := [d1, d2, d3, d4] }
  | _ => none }
def FnExactOwedBetweenWrongFalsely : Prop := fnExactOwedBetweenRow.holds Try.pinned (OpenSpec.ofChange fnExactOwedBetweenWrong)

/-- 'laws.FnExactJoinDebts': WHATEVER THE INPUT: true; the input reads as it did. -/
def fnExactJoinDebtsSpec : ChangeSpec := { name := "fnExactJoinDebts", fn := fun _ => fun
  | [d1, d2] => { results := [.lit (.bool true)], args := [d1, d2] }
  | _ => none }
def fnExactJoinDebtsRow : OpenClaim := { program := "ytofcgkcpkngocaa", sum := "bef15136ba427b8067b01025b0320507fced3cb8d0f46adb686c79e65d8d7236", func := "loop.example/g01263/laws.FnExactJoinDebts", spec := "fnExactJoinDebts", apart := false }
def FnExactJoinDebtsSaid : Prop := fnExactJoinDebtsRow.holds Try.pinned (OpenSpec.ofChange fnExactJoinDebtsSpec)

/-- ITS FALSE NEIGHBOUR: 'it returns false'. Refute it at one input. -/
def fnExactJoinDebtsWrong : ChangeSpec := { name := "fnExactJoinDebts", fn := fun _ => fun
  | [d1, d2] => { results := [.lit (.bool false)], args := [d1, d2] }
  | _ => none }
def FnExactJoinDebtsWrongFalsely : Prop := fnExactJoinDebtsRow.holds Try.pinned (OpenSpec.ofChange fnExactJoinDebtsWrong)

/-- 'laws.FnExactOffsetPairs': WHATEVER THE INPUT: true; the input reads as it did. -/
def fnExactOffsetPairsSpec : ChangeSpec := { name := "fnExactOffsetPairs", fn := fun _ => fun
  | [d1, d2] => { results := [.lit (.bool true)], args := [d1, d2] }
  | _ => none }
def fnExactOffsetPairsRow : OpenClaim := { program := "ytofcgkcpkngocaa", sum := "bef15136ba427b8067b01025b0320507fced3cb8d0f46adb686c79e65d8d7236", func := "loop.example/g01263/laws.FnExactOffsetPairs", spec := "fnExactOffsetPairs", apart := false }
def FnExactOffsetPairsSaid : Prop := fnExactOffsetPairsRow.holds Try.pinned (OpenSpec.ofChange fnExactOffsetPairsSpec)

/-- ITS FALSE NEIGHBOUR: 'it returns false'. Refute it at one input. -/
def fnExactOffsetPairsWrong : ChangeSpec := { name := "fnExactOffsetPairs", fn := fun _ => fun
  | [d1, d2] => { results := [.lit (.bool false)], args := [d1, d2] }
  | _ => none }
def FnExactOffsetPairsWrongFalsely : Prop := fnExactOffsetPairsRow.holds Try.pinned (OpenSpec.ofChange fnExactOffsetPairsWrong)

/-- 'laws.FnExactFindCircle': WHATEVER THE INPUT: true; the input reads as it did. -/
def fnExactFindCircleSpec : ChangeSpec := { name := "fnExactFindCircle", fn := fun _ => fun
  | [d1, d2] => { results := [.lit (.bool true)], args := [d1, d2] }
  | _ => none }
def fnExactFindCircleRow : OpenClaim := { program := "ytofcgkcpkngocaa", sum := "bef15136ba427b8067b01025b0320507fced3cb8d0f46adb686c79e65d8d7236", func := "loop.example/g01263/laws.FnExactFindCircle", spec := "fnExactFindCircle", recurses := true, apart := false }
def FnExactFindCircleSaid : Prop := fnExactFindCircleRow.holds Try.pinned (OpenSpec.ofChange fnExactFindCircleSpec)

/-- ITS FALSE NEIGHBOUR: 'it returns false'. Refute it at one input. -/
def fnExactFindCircleWrong : ChangeSpec := { name := "fnExactFindCircle", fn := fun _ => fun
  | [d1, d2] => { results := [.lit (.bool false)], args := [d1, d2] }
  | _ => none }
def FnExactFindCircleWrongFalsely : Prop := fnExactFindCircleRow.holds Try.pinned (OpenSpec.ofChange fnExactFindCircleWrong)

/-- 'laws.FnExactCancelCircle': WHATEVER THE INPUT: true; the input reads as it did. -/
def fnExactCancelCircleSpec : ChangeSpec := { name := "fnExactCancelCircle", fn := fun _ => fun
  | [d1, d2, d3] => { results := [.lit (.bool true)], args := [d1, d2, d3] }
  | _ => none }
def fnExactCancelCircleRow : OpenClaim := { program := "ytofcgkcpkngocaa", sum := "bef15136ba427b8067b01025b0320507fced3cb8d0f46adb686c79e65d8d7236", func := "loop.example/g01263/laws.FnExactCancelCircle", spec := "fnExactCancelCircle", apart := false }
def FnExactCancelCircleSaid : Prop := fnExactCancelCircleRow.holds Try.pinned (OpenSpec.ofChange fnExactCancelCircleSpec)

/-- ITS FALSE NEIGHBOUR: 'it returns false'. Refute it at one input. -/
def fnExactCancelCircleWrong : ChangeSpec := { name := "fnExactCancelCircle", fn := fun _ => fun
  | [d1, d2, d3] => { results := [.lit (.bool false)], args := [d1, d2, d3] }
  | _ => none }
def FnExactCancelCircleWrongFalsely : Prop := fnExactCancelCircleRow.holds Try.pinned (OpenSpec.ofChange fnExactCancelCircleWrong)

/-- 'laws.FnExactClearCircles': WHATEVER THE INPUT: true; the input reads as it did. -/
def fnExactClearCirclesSpec : ChangeSpec := { name := "fnExactClearCircles", fn := fun _ => fun
  | [d1, d2] => { results := [.lit (.bool true)], args := [d1, d2] }
  | _ => none }
def fnExactClearCirclesRow : OpenClaim := { program := "ytofcgkcpkngocaa", sum := "bef15136ba427b8067b01025b0320507fced3cb8d0f46adb686c79e65d8d7236", func := "loop.example/g01263/laws.FnExactClearCircles", spec := "fnExactClearCircles", recurses := true, apart := false }
def FnExactClearCirclesSaid : Prop := fnExactClearCirclesRow.holds Try.pinned (OpenSpec.ofChange fnExactClearCirclesSpec)

/-- ITS FALSE NEIGHBOUR: 'it returns false'. Refute it at one input. -/
def fnExactClearCirclesWrong : ChangeSpec := { name := "fnExactClearCircles", fn := fun _ => fun
  | [d1, d2] => { results := [.lit (.bool false)], args := [d1, d2] }
  | _ => none }
def FnExactClearCirclesWrongFalsely : Prop := fnExactClearCirclesRow.holds Try.pinned (OpenSpec.ofChange fnExactClearCirclesWrong)

/-- 'laws.FnExactPayDebt': WHATEVER THE INPUT: true; the input reads as it did. -/
def fnExactPayDebtSpec : ChangeSpec := { name := "fnExactPayDebt", fn := fun _ => fun
  | [d1, d2, d3, d4, d5] => { results := [.lit (.bool true)], args := [d1, d2, d3, d4, d5] }
  | _ => none }
def fnExactPayDebtRow : OpenClaim := { program := "ytofcgkcpkngocaa", sum := "bef15136ba427b8067b01025b0320507fced3cb8d0f46adb686c79e65d8d7236", func := "loop.example/g01263/laws.FnExactPayDebt", spec := "fnExactPayDebt", apart := false }
def FnExactPayDebtSaid : Prop := fnExactPayDebtRow.holds Try.pinned (OpenSpec.ofChange fnExactPayDebtSpec)

/-- ITS FALSE NEIGHBOUR: 'it returns false'. Refute it at one input. -/
def fnExactPayDebtWrong : ChangeSpec := { name := "fnExactPayDebt", fn := fun _ => fun
  | [d1, d2, d3, d4, d5] => { results := [.lit (.bool false)], args := [d1, d2, d3, d4, d5] }
  | _ => none }
def FnExactPayDebtWrongFalsely : Prop := fnExactPayDebtRow.holds Try.pinned (OpenSpec.ofChange fnExactPayDebtWrong)

/-- 'laws.FnExactPassDebt': WHATEVER THE INPUT: true; the input reads as it did. -/
def fnExactPassDebtSpec : ChangeSpec := { name := "fnExactPassDebt", fn := fun _ => fun
  | [d1, d2, d3, d4, d5, d6] => { results := [.lit (.bool true)], args := [d1, d2, d3, d4, d5, d6] }
  | _ => none }
def fnExactPassDebtRow : OpenClaim := { program := "ytofcgkcpkngocaa", sum := "bef15136ba427b8067b01025b0320507fced3cb8d0f46adb686c79e65d8d7236", func := "loop.example/g01263/laws.FnExactPassDebt", spec := "fnExactPassDebt", apart := false }
def FnExactPassDebtSaid : Prop := fnExactPassDebtRow.holds Try.pinned (OpenSpec.ofChange fnExactPassDebtSpec)

/-- ITS FALSE NEIGHBOUR: 'it returns false'. Refute it at one input. -/
def fnExactPassDebtWrong : ChangeSpec := { name := "fnExactPassDebt", fn := fun _ => fun
  | [d1, d2, d3, d4, d5, d6] => { results := [.lit (.bool false)], args := [d1, d2, d3, d4, d5, d6] }
  | _ => none }
def FnExactPassDebtWrongFalsely : Prop := fnExactPassDebtRow.holds Try.pinned (OpenSpec.ofChange fnExactPassDebtWrong)

/-- 'laws.FnExactIsCleared': WHATEVER THE INPUT: true; the input reads as it did. -/
def fnExactIsClearedSpec : ChangeSpec := { name := "fnExactIsCleared", fn := fun _ => fun
  | [d1, d2, d3] => { results := [.lit (.bool true)], args := [d1, d2, d3] }
  | _ => none }
def fnExactIsClearedRow : OpenClaim := { program := "ytofcgkcpkngocaa", sum := "bef15136ba427b8067b01025b0320507fced3cb8d0f46adb686c79e65d8d7236", func := "loop.example/g01263/laws.FnExactIsCleared", spec := "fnExactIsCleared", recurses := true, apart := false }
def FnExactIsClearedSaid : Prop := fnExactIsClearedRow.holds Try.pinned (OpenSpec.ofChange fnExactIsClearedSpec)

/-- ITS FALSE NEIGHBOUR: 'it returns false'. Refute it at one input. -/
def fnExactIsClearedWrong : ChangeSpec := { name := "fnExactIsCleared", fn := fun _ => fun
  | [d1, d2, d3] => { results := [.lit (.bool false)], args := [d1, d2, d3] }
  | _ => none }
def FnExactIsClearedWrongFalsely : Prop := fnExactIsClearedRow.holds Try.pinned (OpenSpec.ofChange fnExactIsClearedWrong)

/-- 'laws.FnExactCanPayFrom': WHATEVER THE INPUT: true; the input reads as it did. -/
def fnExactCanPayFromSpec : ChangeSpec := { name := "fnExactCanPayFrom", fn := fun _ => fun
  | [d1, d2, d3] => { results := [.lit (.bool true)], args := [d1, d2, d3] }
  | _ => none }
def fnExactCanPayFromRow : OpenClaim := { program := "ytofcgkcpkngocaa", sum := "bef15136ba427b8067b01025b0320507fced3cb8d0f46adb686c79e65d8d7236", func := "loop.example/g01263/laws.FnExactCanPayFrom", spec := "fnExactCanPayFrom", apart := false }
def FnExactCanPayFromSaid : Prop := fnExactCanPayFromRow.holds Try.pinned (OpenSpec.ofChange fnExactCanPayFromSpec)

/-- ITS FALSE NEIGHBOUR: 'it returns false'. Refute it at one input. -/
def fnExactCanPayFromWrong : ChangeSpec := { name := "fnExactCanPayFrom", fn := fun _ => fun
  | [d1, d2, d3] => { results := [.lit (.bool false)], args := [d1, d2, d3] }
  | _ => none }
def FnExactCanPayFromWrongFalsely : Prop := fnExactCanPayFromRow.holds Try.pinned (OpenSpec.ofChange fnExactCanPayFromWrong)

/-- 'laws.FnCircles': WHATEVER THE INPUT: true; the input reads as it did. -/
def fnCirclesSpec : ChangeSpec := { name := "fnCircles", fn := fun _ => fun
  | [d] => { results := [.lit (.bool true)], args := [d] }
  | _ => none }
def fnCirclesRow : OpenClaim := { program := "ytofcgkcpkngocaa", sum := "bef15136ba427b8067b01025b0320507fced3cb8d0f46adb686c79e65d8d7236", func := "loop.example/g01263/laws.FnCircles", spec := "fnCircles", recurses := true, apart := false }
def FnCirclesSaid : Prop := fnCirclesRow.holds Try.pinned (OpenSpec.ofChange fnCirclesSpec)

/-- ITS FALSE NEIGHBOUR: 'it returns false'. Refute it at one input. -/
def fnCirclesWrong : ChangeSpec := { name := "fnCircles", fn := fun _ => fun
  | [d] => { results := [.lit (.bool false)], args := [d] }
  | _ => none }
def FnCirclesWrongFalsely : Prop := fnCirclesRow.holds Try.pinned (OpenSpec.ofChange fnCirclesWrong)

/-- 'laws.FnPaid': WHATEVER THE INPUT: true; the input reads as it did. -/
def fnPaidSpec : ChangeSpec := { name := "fnPaid", fn := fun _ => fun
  | [d1, d2] => { results := [.lit (.bool true)], args := [d1, d2] }
  | _ => none }
def fnPaidRow : OpenClaim := { program := "ytofcgkcpkngocaa", sum := "bef15136ba427b8067b01025b0320507fced3cb8d0f46adb686c79e65d8d7236", func := "loop.example/g01263/laws.FnPaid", spec := "fnPaid", apart := false }
def FnPaidSaid : Prop := fnPaidRow.holds Try.pinned (OpenSpec.ofChange fnPaidSpec)

/-- ITS FALSE NEIGHBOUR: 'it returns false'. Refute it at one input. -/
def fnPaidWrong : ChangeSpec := { name := "fnPaid", fn := fun _ => fun
  | [d1, d2] => { results := [.lit (.bool false)], args := [d1, d2] }
  | _ => none }
def FnPaidWrongFalsely : Prop := fnPaidRow.holds Try.pinned (OpenSpec.ofChange fnPaidWrong)

/- THE SECOND FORM. 'bulk': how many values and letters a reading holds, each counted each time it is reached (what is shared counts as often as it is met; a slice's spare places count too). A statement '..UptoSaid' is the law's where the arguments, and the package variables that the reading takes, are together of bulk at most 1048576: NARROWER than '..Said'. Prove '..Said' where nothing that the law and all that it calls make is longer than what came in: it says more and counts as full. Else prove '..UptoSaid'. A law counts once. -/
mutual
def uptoBulk {H : Type} : DataW H → Nat
  | .lit (.string bytes) => bytes.length + 1
  | .lit _ => 1
  | .nil => 1
  | .ptr d => uptoBulk d + 1
  | .slice elems spare => uptoBulkAll elems + uptoBulkAll spare + 1
  | .agg parts => uptoBulkAll parts + 1
  | .iface _ d => uptoBulk d + 1
  | .map entries => uptoBulkEntries entries + 1
  | .held _ => 1
def uptoBulkAll {H : Type} : List (DataW H) → Nat
  | [] => 0
  | d :: r => uptoBulk d + uptoBulkAll r
def uptoBulkEntries {H : Type} : List (Lit × DataW H) → Nat
  | [] => 0
  | x :: r => uptoBulkEntry x + uptoBulkEntries r
def uptoBulkEntry {H : Type} : Lit × DataW H → Nat
  | (.string bytes, d) => bytes.length + uptoBulk d + 1
  | (_, d) => uptoBulk d + 1
 end
def uptoSmall : (H : Type) → List (DataW H) → Bool := fun _ ds => decide (uptoBulkAll ds ≤ 1048576)
def OpenSpec.upto (s : _root_.Go.ChangeSpec) : _root_.Go.OpenSpec := { _root_.Go.OpenSpec.ofChange s with cond := some uptoSmall }

/-- 'laws.FnExactOwedBetween', WHERE WHAT IT READS IS OF BULK AT MOST 1048576: true; the input reads as it did. -/
def fnExactOwedBetweenUptoRow : OpenClaim := { program := "ytofcgkcpkngocaa", sum := "bef15136ba427b8067b01025b0320507fced3cb8d0f46adb686c79e65d8d7236", func := "loop.example/g01263/laws.FnExactOwedBetween", spec := "fnExactOwedBetween", apart := false, narrowed := true }
def FnExactOwedBetweenUptoSaid : Prop := fnExactOwedBetweenUptoRow.holds Try.pinned (OpenSpec.upto fnExactOwedBetweenSpec)

/-- 'laws.FnExactJoinDebts', WHERE WHAT IT READS IS OF BULK AT MOST 1048576: true; the input reads as it did. -/
def fnExactJoinDebtsUptoRow : OpenClaim := { program := "ytofcgkcpkngocaa", sum := "bef15136ba427b8067b01025b0320507fced3cb8d0f46adb686c79e65d8d7236", func := "loop.example/g01263/laws.FnExactJoinDebts", spec := "fnExactJoinDebts", apart := false, narrowed := true }
def FnExactJoinDebtsUptoSaid : Prop := fnExactJoinDebtsUptoRow.holds Try.pinned (OpenSpec.upto fnExactJoinDebtsSpec)

/-- 'laws.FnExactOffsetPairs', WHERE WHAT IT READS IS OF BULK AT MOST 1048576: true; the input reads as it did. -/
def fnExactOffsetPairsUptoRow : OpenClaim := { program := "ytofcgkcpkngocaa", sum := "bef15136ba427b8067b01025b0320507fced3cb8d0f46adb686c79e65d8d7236", func := "loop.example/g01263/laws.FnExactOffsetPairs", spec := "fnExactOffsetPairs", apart := false, narrowed := true }
def FnExactOffsetPairsUptoSaid : Prop := fnExactOffsetPairsUptoRow.holds Try.pinned (OpenSpec.upto fnExactOffsetPairsSpec)

/-- 'laws.FnExactFindCircle', WHERE WHAT IT READS IS OF BULK AT MOST 1048576: true; the input reads as it did. -/
def fnExactFindCircleUptoRow : OpenClaim := { program := "ytofcgkcpkngocaa", sum := "bef15136ba427b8067b01025b0320507fced3cb8d0f46adb686c79e65d8d7236", func := "loop.example/g01263/laws.FnExactFindCircle", spec := "fnExactFindCircle", recurses := true, apart := false, narrowed := true }
def FnExactFindCircleUptoSaid : Prop := fnExactFindCircleUptoRow.holds Try.pinned (OpenSpec.upto fnExactFindCircleSpec)

/-- 'laws.FnExactCancelCircle', WHERE WHAT IT READS IS OF BULK AT MOST 1048576: true; the input reads as it did. -/
def fnExactCancelCircleUptoRow : OpenClaim := { program := "ytofcgkcpkngocaa", sum := "bef15136ba427b8067b01025b0320507fced3cb8d0f46adb686c79e65d8d7236", func := "loop.example/g01263/laws.FnExactCancelCircle", spec := "fnExactCancelCircle", apart := false, narrowed := true }
def FnExactCancelCircleUptoSaid : Prop := fnExactCancelCircleUptoRow.holds Try.pinned (OpenSpec.upto fnExactCancelCircleSpec)

/-- 'laws.FnExactClearCircles', WHERE WHAT IT READS IS OF BULK AT MOST 1048576: true; the input reads as it did. -/
def fnExactClearCirclesUptoRow : OpenClaim := { program := "ytofcgkcpkngocaa", sum := "bef15136ba427b8067b01025b0320507fced3cb8d0f46adb686c79e65d8d7236", func := "loop.example/g01263/laws.FnExactClearCircles", spec := "fnExactClearCircles", recurses := true, apart := false, narrowed := true }
def FnExactClearCirclesUptoSaid : Prop := fnExactClearCirclesUptoRow.holds Try.pinned (OpenSpec.upto fnExactClearCirclesSpec)

/-- 'laws.FnExactPayDebt', WHERE WHAT IT READS IS OF BULK AT MOST 1048576: true; the input reads as it did. -/
def fnExactPayDebtUptoRow : OpenClaim := { program := "ytofcgkcpkngocaa", sum := "bef15136ba427b8067b01025b0320507fced3cb8d0f46adb686c79e65d8d7236", func := "loop.example/g01263/laws.FnExactPayDebt", spec := "fnExactPayDebt", apart := false, narrowed := true }
def FnExactPayDebtUptoSaid : Prop := fnExactPayDebtUptoRow.holds Try.pinned (OpenSpec.upto fnExactPayDebtSpec)

/-- 'laws.FnExactPassDebt', WHERE WHAT IT READS IS OF BULK AT MOST 1048576: true; the input reads as it did. -/
def fnExactPassDebtUptoRow : OpenClaim := { program := "ytofcgkcpkngocaa", sum := "bef15136ba427b8067b01025b0320507fced3cb8d0f46adb686c79e65d8d7236", func := "loop.example/g01263/laws.FnExactPassDebt", spec := "fnExactPassDebt", apart := false, narrowed := true }
def FnExactPassDebtUptoSaid : Prop := fnExactPassDebtUptoRow.holds Try.pinned (OpenSpec.upto fnExactPassDebtSpec)

/-- 'laws.FnExactIsCleared', WHERE WHAT IT READS IS OF BULK AT MOST 1048576: true; the input reads as it did. -/
def fnExactIsClearedUptoRow : OpenClaim := { program := "ytofcgkcpkngocaa", sum := "bef15136ba427b8067b01025b0320507fced3cb8d0f46adb686c79e65d8d7236", func := "loop.example/g01263/laws.FnExactIsCleared", spec := "fnExactIsCleared", recurses := true, apart := false, narrowed := true }
def FnExactIsClearedUptoSaid : Prop := fnExactIsClearedUptoRow.holds Try.pinned (OpenSpec.upto fnExactIsClearedSpec)

/-- 'laws.FnExactCanPayFrom', WHERE WHAT IT READS IS OF BULK AT MOST 1048576: true; the input reads as it did. -/
def fnExactCanPayFromUptoRow : OpenClaim := { program := "ytofcgkcpkngocaa", sum := "bef15136ba427b8067b01025b0320507fced3cb8d0f46adb686c79e65d8d7236", func := "loop.example/g01263/laws.FnExactCanPayFrom", spec := "fnExactCanPayFrom", apart := false, narrowed := true }
def FnExactCanPayFromUptoSaid : Prop := fnExactCanPayFromUptoRow.holds Try.pinned (OpenSpec.upto fnExactCanPayFromSpec)

/-- 'laws.FnCircles', WHERE WHAT IT READS IS OF BULK AT MOST 1048576: true; the input reads as it did. -/
def fnCirclesUptoRow : OpenClaim := { program := "ytofcgkcpkngocaa", sum := "bef15136ba427b8067b01025b0320507fced3cb8d0f46adb686c79e65d8d7236", func := "loop.example/g01263/laws.FnCircles", spec := "fnCircles", recurses := true, apart := false, narrowed := true }
def FnCirclesUptoSaid : Prop := fnCirclesUptoRow.holds Try.pinned (OpenSpec.upto fnCirclesSpec)

/-- 'laws.FnPaid', WHERE WHAT IT READS IS OF BULK AT MOST 1048576: true; the input reads as it did. -/
def fnPaidUptoRow : OpenClaim := { program := "ytofcgkcpkngocaa", sum := "bef15136ba427b8067b01025b0320507fced3cb8d0f46adb686c79e65d8d7236", func := "loop.example/g01263/laws.FnPaid", spec := "fnPaid", apart := false, narrowed := true }
def FnPaidUptoSaid : Prop := fnPaidUptoRow.holds Try.pinned (OpenSpec.upto fnPaidSpec)

end Rows
end Go.Proofs.Ytofcgkcpkngocaa
