/-
  No cell of these rows narrows 'for every input' (looked for: loops, veiled, ifaces, maps, wideKeys, modest, calm, conditions, laid).
  DERIVED. THE GIVEN ROWS OF THIS SEAT. 5 by the template 'for every input the law returns true; each argument reads behind the call as it read before'; 0 by the template 'total and deterministic' (their statements: YtgmciklleapocaaTotals.lean).
  GIVEN WITH THE SEED: the statements are not yours to turn. If you find one false, say at which input.
  Laid BY PROGRAM, IN A SANDBOX (cutbox-rows.mjs): the forced cells as the released guide's own fill.sh prints them over the translation fc326592b7abd1a2… (all of the seat's roots in one cut). By AI agents, Wed Nov 11 2026. No macro, syntax, notation, axiom, sorry.
-/
import Derived.Test.YtgmciklleapocaaChecked
import GoSem.Claim
import GoSem.ClaimJoined
import GoSem.ClaimMapViews
import Derived.JoinedTies
import Derived.KernelRfl
namespace Go.Proofs.Ytgmciklleapocaa
/- THE CELL 'sum', in the pinned program and in every row, IS THE sha256 OF THE DUMP (.gsa) THAT YtgmciklleapocaaProg.lean LOADS. Nothing in Lean hashes anything: it is a label: what it is worth is what the hold of that sum in a sandbox is worth. -/
noncomputable def Try.pinned : Pinned := { name := "ytgmciklleapocaa", sum := "fc326592b7abd1a214315ebde5bde2fa42570ea3157ecb54d8fa2281b0d3d489", checked := Try.checked }
namespace Rows
def none {H : Type} : Left H := { results := [], args := [] }

/-- 'laws.FnExactDueOn': WHATEVER THE INPUT: true; the input reads as it did. -/
def fnExactDueOnSpec : ChangeSpec := { name := "fnExactDueOn", fn := fun _ => fun
  | [d1, d2] => { results := [.lit (.bool true)], args := [d1, d2] }
  | _ => none }
def fnExactDueOnRow : OpenClaim := { program := "ytgmciklleapocaa", sum := "fc326592b7abd1a214315ebde5bde2fa42570ea3157ecb54d8fa2281b0d3d489", func := "loop.example/g01263/laws.FnExactDueOn", spec := "fnExactDueOn", apart := false }
def FnExactDueOnSaid : Prop := fnExactDueOnRow.holds Try.pinned (OpenSpec.ofChange fnExactDueOnSpec)

/-- ITS FALSE NEIGHBOUR: 'it returns false'. Refute it at one input. -/
def fnExactDueOnWrong : ChangeSpec := { name := "fnExactDueOn", fn := fun _ => fun
  | [d1, d2] => { results := [.lit (.bool false)], args := [d1, d2] }
  | _ => none }
def FnExactDueOnWrongFalsely : Prop := fnExactDueOnRow.holds Try.pinned (OpenSpec.ofChange fnExactDueOnWrong)

/-- 'laws.FnExactSumOfDebts': WHATEVER THE INPUT: true; the input reads as it did. -/
def fnExactSumOfDebtsSpec : ChangeSpec := { name := "fnExactSumOfDebts", fn := fun _ => fun
  | [d1, d2] => { results := [.lit (.bool true)], args := [d1, d2] }
  | _ => none }
def fnExactSumOfDebtsRow : OpenClaim := { program := "ytgmciklleapocaa", sum := "fc326592b7abd1a214315ebde5bde2fa42570ea3157ecb54d8fa2281b0d3d489", func := "loop.example/g01263/laws.FnExactSumOfDebts", spec := "fnExactSumOfDebts", apart := false }
def FnExactSumOfDebtsSaid : Prop := fnExactSumOfDebtsRow.holds Try.pinned (OpenSpec.ofChange fnExactSumOfDebtsSpec)

/-- ITS FALSE NEIGHBOUR: 'it returns false'. Refute it at one input. -/
def fnExactSumOfDebtsWrong : ChangeSpec := { name := "fnExactSumOfDebts", fn := fun _ => fun
  | [d1, d2] => { results := [.lit (.bool false)], args := [d1, d2] }
  | _ => none }
def FnExactSumOfDebtsWrongFalsely : Prop := fnExactSumOfDebtsRow.holds Try.pinned (OpenSpec.ofChange fnExactSumOfDebtsWrong)

/-- 'laws.FnExactNetsOf': WHATEVER THE INPUT: true; the input reads as it did. -/
def fnExactNetsOfSpec : ChangeSpec := { name := "fnExactNetsOf", fn := fun _ => fun
  | [d1, d2] => { results := [.lit (.bool true)], args := [d1, d2] }
  | _ => none }
def fnExactNetsOfRow : OpenClaim := { program := "ytgmciklleapocaa", sum := "fc326592b7abd1a214315ebde5bde2fa42570ea3157ecb54d8fa2281b0d3d489", func := "loop.example/g01263/laws.FnExactNetsOf", spec := "fnExactNetsOf", apart := false }
def FnExactNetsOfSaid : Prop := fnExactNetsOfRow.holds Try.pinned (OpenSpec.ofChange fnExactNetsOfSpec)

/-- ITS FALSE NEIGHBOUR: 'it returns false'. Refute it at one input. -/
def fnExactNetsOfWrong : ChangeSpec := { name := "fnExactNetsOf", fn := fun _ => fun
  | [d1, d2] => { results := [.lit (.bool false)], args := [d1, d2] }
  | _ => none }
def FnExactNetsOfWrongFalsely : Prop := fnExactNetsOfRow.holds Try.pinned (OpenSpec.ofChange fnExactNetsOfWrong)

/-- 'laws.FnExactSettlesAll': WHATEVER THE INPUT: true; the input reads as it did. -/
def fnExactSettlesAllSpec : ChangeSpec := { name := "fnExactSettlesAll", fn := fun _ => fun
  | [d1, d2] => { results := [.lit (.bool true)], args := [d1, d2] }
  | _ => none }
def fnExactSettlesAllRow : OpenClaim := { program := "ytgmciklleapocaa", sum := "fc326592b7abd1a214315ebde5bde2fa42570ea3157ecb54d8fa2281b0d3d489", func := "loop.example/g01263/laws.FnExactSettlesAll", spec := "fnExactSettlesAll", apart := false }
def FnExactSettlesAllSaid : Prop := fnExactSettlesAllRow.holds Try.pinned (OpenSpec.ofChange fnExactSettlesAllSpec)

/-- ITS FALSE NEIGHBOUR: 'it returns false'. Refute it at one input. -/
def fnExactSettlesAllWrong : ChangeSpec := { name := "fnExactSettlesAll", fn := fun _ => fun
  | [d1, d2] => { results := [.lit (.bool false)], args := [d1, d2] }
  | _ => none }
def FnExactSettlesAllWrongFalsely : Prop := fnExactSettlesAllRow.holds Try.pinned (OpenSpec.ofChange fnExactSettlesAllWrong)

/-- 'laws.FnExactSettleByNets': WHATEVER THE INPUT: true; the input reads as it did. -/
def fnExactSettleByNetsSpec : ChangeSpec := { name := "fnExactSettleByNets", fn := fun _ => fun
  | [d] => { results := [.lit (.bool true)], args := [d] }
  | _ => none }
def fnExactSettleByNetsRow : OpenClaim := { program := "ytgmciklleapocaa", sum := "fc326592b7abd1a214315ebde5bde2fa42570ea3157ecb54d8fa2281b0d3d489", func := "loop.example/g01263/laws.FnExactSettleByNets", spec := "fnExactSettleByNets", apart := false }
def FnExactSettleByNetsSaid : Prop := fnExactSettleByNetsRow.holds Try.pinned (OpenSpec.ofChange fnExactSettleByNetsSpec)

/-- ITS FALSE NEIGHBOUR: 'it returns false'. Refute it at one input. -/
def fnExactSettleByNetsWrong : ChangeSpec := { name := "fnExactSettleByNets", fn := fun _ => fun
  | [d] => { results := [.lit (.bool false)], args := [d] }
  | _ => none }
def FnExactSettleByNetsWrongFalsely : Prop := fnExactSettleByNetsRow.holds Try.pinned (OpenSpec.ofChange fnExactSettleByNetsWrong)

/- THE SECOND FORM. 'bulk': how many values and letters a reading holds, each counted each time it is reached (what is shared counts as often as it is met; a slice's spare places count too). A statement '..UptoSaid' is the law's where the arguments, and the package variables that the reading takes, are together of bulk at most 1048576: NARROWER than '..Said'. Prove '..Said' where nothing that the law and all that it calls make is longer than what came in: it says more and counts as full. Else prove '..UptoSaid'. A law counts once. -/
mutual
def uptoBulk {H : Type} : DataW H → Nat
  | .lit (.string bytes) => bytes.length + 1
  | .lit _ => 1
  | .nil => 1
  | .ptr d => uptoBulk d + 1
  | .slice elems spare => uptoBulkAll elems + uptoBulkAll spare + 1
  | .agg parts => uptoBulkAll parts + 1
  | .iface _ d => uptoBulk d + 1
  | .map entries => uptoBulkEntries entries + 1
  | .held _ => 1
def uptoBulkAll {H : Type} : List (DataW H) → Nat
  | [] => 0
  | d :: r => uptoBulk d + uptoBulkAll r
def uptoBulkEntries {H : Type} : List (Lit × DataW H) → Nat
  | [] => 0
  | x :: r => uptoBulkEntry x + uptoBulkEntries r
def uptoBulkEntry {H : Type} : Lit × DataW H → Nat
  | (.string bytes, d) => bytes.length + uptoBulk d + 1
  | (_, d) => uptoBulk d + 1
 end
def uptoSmall : (H : Type) → List (DataW H) → Bool := fun _ ds => decide (uptoBulkAll ds ≤ 1048576)
def OpenSpec.upto (s : _root_.Go.ChangeSpec) : _root_.Go.OpenSpec := { _root_.Go.OpenSpec.ofChange s with cond := some uptoSmall }

/-- 'laws.FnExactDueOn', WHERE WHAT IT READS IS OF BULK AT MOST 1048576: true; the input reads as it did. -/
def fnExactDueOnUptoRow : OpenClaim := { program := "ytgmciklleapocaa", sum := "fc326592b7abd1a214315ebde5bde2fa42570ea3157ecb54d8fa2281b0d3d489", func := "loop.example/g01263/laws.FnExactDueOn", spec := "fnExactDueOn", apart := false, narrowed := true }
def FnExactDueOnUptoSaid : Prop := fnExactDueOnUptoRow.holds Try.pinned (OpenSpec.upto fnExactDueOnSpec)

/-- 'laws.FnExactSumOfDebts', WHERE WHAT IT READS IS OF BULK AT MOST 1048576: true; the input reads as it did. -/
def fnExactSumOfDebtsUptoRow : OpenClaim := { program := "ytgmciklleapocaa", sum := "fc326592b7abd1a214315ebde5bde2fa42570ea3157ecb54d8fa2281b0d3d489", func := "loop.example/g01263/laws.FnExactSumOfDebts", spec := "fnExactSumOfDebts", apart := false, narrowed := true }
def FnExactSumOfDebtsUptoSaid : Prop := fnExactSumOfDebtsUptoRow.holds Try.pinned (OpenSpec.upto fnExactSumOfDebtsSpec)

/-- 'laws.FnExactNetsOf', WHERE WHAT IT READS IS OF BULK AT MOST 1048576: true; the input reads as it did. -/
def fnExactNetsOfUptoRow : OpenClaim := { program := "ytgmciklleapocaa", sum := "fc326592b7abd1a214315ebde5bde2fa42570ea3157ecb54d8fa2281b0d3d489", func := "loop.example/g01263/laws.FnExactNetsOf", spec := "fnExactNetsOf", apart := false, narrowed := true }
def FnExactNetsOfUptoSaid : Prop := fnExactNetsOfUptoRow.holds Try.pinned (OpenSpec.upto fnExactNetsOfSpec)

/-- 'laws.FnExactSettlesAll', WHERE WHAT IT READS IS OF BULK AT MOST 1048576: true; the input reads as it did. -/
def fnExactSettlesAllUptoRow : OpenClaim := { program := "ytgmciklleapocaa", sum := "fc326592b7abd1a214315ebde5bde2fa42570ea3157ecb54d8fa2281b0d3d489", func := "loop.example/g01263/laws.FnExactSettlesAll", spec := "fnExactSettlesAll", apart := false, narrowed := true }
def FnExactSettlesAllUptoSaid : Prop := fnExactSettlesAllUptoRow.holds Try.pinned (OpenSpec.upto fnExactSettlesAllSpec)

/-- 'laws.FnExactSettleByNets', WHERE WHAT IT READS IS OF BULK AT MOST 1048576: true; the input reads as it did. -/
def fnExactSettleByNetsUptoRow : OpenClaim := { program := "ytgmciklleapocaa", sum := "fc326592b7abd1a214315ebde5bde2fa42570ea3157ecb54d8fa2281b0d3d489", func := "loop.example/g01263/laws.FnExactSettleByNets", spec := "fnExactSettleByNets", apart := false, narrowed := true }
def FnExactSettleByNetsUptoSaid : Prop := fnExactSettleByNetsUptoRow.holds Try.pinned (OpenSpec.upto fnExactSettleByNetsSpec)

end Rows
end Go.Proofs.Ytgmciklleapocaa
