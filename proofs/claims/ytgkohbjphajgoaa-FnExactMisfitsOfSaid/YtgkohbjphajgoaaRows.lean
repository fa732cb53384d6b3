/-
  No cell of these rows narrows 'for every input' (looked for: loops, veiled, ifaces, maps, wideKeys, modest, calm, conditions, laid).
  DERIVED. THE GIVEN ROWS OF THIS SEAT. 12 by the template 'for every input the law returns true; each argument reads behind the call as it read before'; 0 by the template 'total and deterministic' (their statements: YtgkohbjphajgoaaTotals.lean).
  GIVEN WITH THE SEED: the statements are not yours to turn. If you find one false, say at which input.
  Laid BY PROGRAM, IN A SANDBOX (cutbox-rows.mjs): the forced cells as the released guide's own fill.sh prints them over the translation 3d126e3e32f1314f… (all of the seat's roots in one cut). By AI agents, Wed Nov 11 2026. No macro, syntax, notation, axiom, sorry.
-/
import Derived.Test.YtgkohbjphajgoaaChecked
import GoSem.Claim
import GoSem.ClaimJoined
import GoSem.ClaimMapViews
import Derived.JoinedTies
import Derived.KernelRfl
namespace Go.Proofs.Ytgkohbjphajgoaa
/- THE CELL 'sum', in the pinned program and in every row, IS THE sha256 OF THE DUMP (.gsa) THAT YtgkohbjphajgoaaProg.lean LOADS. Nothing in Lean hashes anything: it is a label: what it is worth is what the hold of that sum in a sandbox is worth. -/
noncomputable def Try.pinned : Pinned := { name := "ytgkohbjphajgoaa", sum := "3d126e3e32f1314fae45e3e1f1c0a4472e8e9eaff16011e9b2daed6cf979626a", checked := Try.checked }
namespace Rows
def none {H : Type} : Left H := { results := [], args := [] }

/-- 'laws.FnExactValidGrain': WHATEVER THE INPUT: true; the input reads as it did. -/
def fnExactValidGrainSpec : ChangeSpec := { name := "fnExactValidGrain", fn := fun _ => fun
  | [d] => { results := [.lit (.bool true)], args := [d] }
  | _ => none }
def fnExactValidGrainRow : OpenClaim := { program := "ytgkohbjphajgoaa", sum := "3d126e3e32f1314fae45e3e1f1c0a4472e8e9eaff16011e9b2daed6cf979626a", func := "loop.example/g01263/laws.FnExactValidGrain", spec := "fnExactValidGrain", apart := false }
def FnExactValidGrainSaid : Prop := fnExactValidGrainRow.holds Try.pinned (OpenSpec.ofChange fnExactValidGrainSpec)

/-- ITS FALSE NEIGHBOUR: 'it returns false'. Refute it at one input. -/
def fnExactValidGrainWrong : ChangeSpec := { name := "fnExactValidGrain", fn := fun _ => fun
  | [d] => { results := [.lit (.bool false)], args := [d] }
  | _ => none }
def FnExactValidGrainWrongFalsely : Prop := fnExactValidGrainRow.holds Try.pinned (OpenSpec.ofChange fnExactValidGrainWrong)

/-- 'laws.FnExactGrainFrom': WHATEVER THE INPUT: true; the input reads as it did. -/
def fnExactGrainFromSpec : ChangeSpec := { name := "fnExactGrainFrom", fn := fun _ => fun
  | [d] => { results := [.lit (.bool true)], args := [d] }
  | _ => none }
def fnExactGrainFromRow : OpenClaim := { program := "ytgkohbjphajgoaa", sum := "3d126e3e32f1314fae45e3e1f1c0a4472e8e9eaff16011e9b2daed6cf979626a", func := "loop.example/g01263/laws.FnExactGrainFrom", spec := "fnExactGrainFrom", apart := false }
def FnExactGrainFromSaid : Prop := fnExactGrainFromRow.holds Try.pinned (OpenSpec.ofChange fnExactGrainFromSpec)

/-- ITS FALSE NEIGHBOUR: 'it returns false'. Refute it at one input. -/
def fnExactGrainFromWrong : ChangeSpec := { name := "fnExactGrainFrom", fn := fun _ => fun
  | [d] => { results := [.lit (.bool false)], args := [d] }
  | _ => none }
def FnExactGrainFromWrongFalsely : Prop := fnExactGrainFromRow.holds Try.pinned (OpenSpec.ofChange fnExactGrainFromWrong)

/-- 'laws.FnExactOppositeGrain': WHATEVER THE INPUT: true; the input reads as it did. -/
def fnExactOppositeGrainSpec : ChangeSpec := { name := "fnExactOppositeGrain", fn := fun _ => fun
  | [d] => { results := [.lit (.bool true)], args := [d] }
  | _ => none }
def fnExactOppositeGrainRow : OpenClaim := { program := "ytgkohbjphajgoaa", sum := "3d126e3e32f1314fae45e3e1f1c0a4472e8e9eaff16011e9b2daed6cf979626a", func := "loop.example/g01263/laws.FnExactOppositeGrain", spec := "fnExactOppositeGrain", apart := false }
def FnExactOppositeGrainSaid : Prop := fnExactOppositeGrainRow.holds Try.pinned (OpenSpec.ofChange fnExactOppositeGrainSpec)

/-- ITS FALSE NEIGHBOUR: 'it returns false'. Refute it at one input. -/
def fnExactOppositeGrainWrong : ChangeSpec := { name := "fnExactOppositeGrain", fn := fun _ => fun
  | [d] => { results := [.lit (.bool false)], args := [d] }
  | _ => none }
def FnExactOppositeGrainWrongFalsely : Prop := fnExactOppositeGrainRow.holds Try.pinned (OpenSpec.ofChange fnExactOppositeGrainWrong)

/-- 'laws.FnExactWearGrain': WHATEVER THE INPUT: true; the input reads as it did. -/
def fnExactWearGrainSpec : ChangeSpec := { name := "fnExactWearGrain", fn := fun _ => fun
  | [d1, d2, d3] => { results := [.lit (.bool true)], args := [d1, d2, d3] }
  | _ => none }
def fnExactWearGrainRow : OpenClaim := { program := "ytgkohbjphajgoaa", sum := "3d126e3e32f1314fae45e3e1f1c0a4472e8e9eaff16011e9b2daed6cf979626a", func := "loop.example/g01263/laws.FnExactWearGrain", spec := "fnExactWearGrain", apart := false }
def FnExactWearGrainSaid : Prop := fnExactWearGrainRow.holds Try.pinned (OpenSpec.ofChange fnExactWearGrainSpec)

/-- ITS FALSE NEIGHBOUR: 'it returns false'. Refute it at one input. -/
def fnExactWearGrainWrong : ChangeSpec := { name := "fnExactWearGrain", fn := fun _ => fun
  | [d1, d2, d3] => { results := [.lit (.bool false)], args := [d1, d2, d3] }
  | _ => none }
def FnExactWearGrainWrongFalsely : Prop := fnExactWearGrainRow.holds Try.pinned (OpenSpec.ofChange fnExactWearGrainWrong)

/-- 'laws.FnExactFitsGrain': WHATEVER THE INPUT: true; the input reads as it did. -/
def fnExactFitsGrainSpec : ChangeSpec := { name := "fnExactFitsGrain", fn := fun _ => fun
  | [d1, d2, d3] => { results := [.lit (.bool true)], args := [d1, d2, d3] }
  | _ => none }
def fnExactFitsGrainRow : OpenClaim := { program := "ytgkohbjphajgoaa", sum := "3d126e3e32f1314fae45e3e1f1c0a4472e8e9eaff16011e9b2daed6cf979626a", func := "loop.example/g01263/laws.FnExactFitsGrain", spec := "fnExactFitsGrain", apart := false }
def FnExactFitsGrainSaid : Prop := fnExactFitsGrainRow.holds Try.pinned (OpenSpec.ofChange fnExactFitsGrainSpec)

/-- ITS FALSE NEIGHBOUR: 'it returns false'. Refute it at one input. -/
def fnExactFitsGrainWrong : ChangeSpec := { name := "fnExactFitsGrain", fn := fun _ => fun
  | [d1, d2, d3] => { results := [.lit (.bool false)], args := [d1, d2, d3] }
  | _ => none }
def FnExactFitsGrainWrongFalsely : Prop := fnExactFitsGrainRow.holds Try.pinned (OpenSpec.ofChange fnExactFitsGrainWrong)

/-- 'laws.FnExactSameHalf': WHATEVER THE INPUT: true; the input reads as it did. -/
def fnExactSameHalfSpec : ChangeSpec := { name := "fnExactSameHalf", fn := fun _ => fun
  | [d1, d2] => { results := [.lit (.bool true)], args := [d1, d2] }
  | _ => none }
def fnExactSameHalfRow : OpenClaim := { program := "ytgkohbjphajgoaa", sum := "3d126e3e32f1314fae45e3e1f1c0a4472e8e9eaff16011e9b2daed6cf979626a", func := "loop.example/g01263/laws.FnExactSameHalf", spec := "fnExactSameHalf", apart := false }
def FnExactSameHalfSaid : Prop := fnExactSameHalfRow.holds Try.pinned (OpenSpec.ofChange fnExactSameHalfSpec)

/-- ITS FALSE NEIGHBOUR: 'it returns false'. Refute it at one input. -/
def fnExactSameHalfWrong : ChangeSpec := { name := "fnExactSameHalf", fn := fun _ => fun
  | [d1, d2] => { results := [.lit (.bool false)], args := [d1, d2] }
  | _ => none }
def FnExactSameHalfWrongFalsely : Prop := fnExactSameHalfRow.holds Try.pinned (OpenSpec.ofChange fnExactSameHalfWrong)

/-- 'laws.FnExactValidHalf': WHATEVER THE INPUT: true; the input reads as it did. -/
def fnExactValidHalfSpec : ChangeSpec := { name := "fnExactValidHalf", fn := fun _ => fun
  | [d] => { results := [.lit (.bool true)], args := [d] }
  | _ => none }
def fnExactValidHalfRow : OpenClaim := { program := "ytgkohbjphajgoaa", sum := "3d126e3e32f1314fae45e3e1f1c0a4472e8e9eaff16011e9b2daed6cf979626a", func := "loop.example/g01263/laws.FnExactValidHalf", spec := "fnExactValidHalf", apart := false }
def FnExactValidHalfSaid : Prop := fnExactValidHalfRow.holds Try.pinned (OpenSpec.ofChange fnExactValidHalfSpec)

/-- ITS FALSE NEIGHBOUR: 'it returns false'. Refute it at one input. -/
def fnExactValidHalfWrong : ChangeSpec := { name := "fnExactValidHalf", fn := fun _ => fun
  | [d] => { results := [.lit (.bool false)], args := [d] }
  | _ => none }
def FnExactValidHalfWrongFalsely : Prop := fnExactValidHalfRow.holds Try.pinned (OpenSpec.ofChange fnExactValidHalfWrong)

/-- 'laws.FnExactEndOf': WHATEVER THE INPUT: true; the input reads as it did. -/
def fnExactEndOfSpec : ChangeSpec := { name := "fnExactEndOf", fn := fun _ => fun
  | [d] => { results := [.lit (.bool true)], args := [d] }
  | _ => none }
def fnExactEndOfRow : OpenClaim := { program := "ytgkohbjphajgoaa", sum := "3d126e3e32f1314fae45e3e1f1c0a4472e8e9eaff16011e9b2daed6cf979626a", func := "loop.example/g01263/laws.FnExactEndOf", spec := "fnExactEndOf", apart := false }
def FnExactEndOfSaid : Prop := fnExactEndOfRow.holds Try.pinned (OpenSpec.ofChange fnExactEndOfSpec)

/-- ITS FALSE NEIGHBOUR: 'it returns false'. Refute it at one input. -/
def fnExactEndOfWrong : ChangeSpec := { name := "fnExactEndOf", fn := fun _ => fun
  | [d] => { results := [.lit (.bool false)], args := [d] }
  | _ => none }
def FnExactEndOfWrongFalsely : Prop := fnExactEndOfRow.holds Try.pinned (OpenSpec.ofChange fnExactEndOfWrong)

/-- 'laws.FnExactAmountOf': WHATEVER THE INPUT: true; the input reads as it did. -/
def fnExactAmountOfSpec : ChangeSpec := { name := "fnExactAmountOf", fn := fun _ => fun
  | [d] => { results := [.lit (.bool true)], args := [d] }
  | _ => none }
def fnExactAmountOfRow : OpenClaim := { program := "ytgkohbjphajgoaa", sum := "3d126e3e32f1314fae45e3e1f1c0a4472e8e9eaff16011e9b2daed6cf979626a", func := "loop.example/g01263/laws.FnExactAmountOf", spec := "fnExactAmountOf", apart := false }
def FnExactAmountOfSaid : Prop := fnExactAmountOfRow.holds Try.pinned (OpenSpec.ofChange fnExactAmountOfSpec)

/-- ITS FALSE NEIGHBOUR: 'it returns false'. Refute it at one input. -/
def fnExactAmountOfWrong : ChangeSpec := { name := "fnExactAmountOf", fn := fun _ => fun
  | [d] => { results := [.lit (.bool false)], args := [d] }
  | _ => none }
def FnExactAmountOfWrongFalsely : Prop := fnExactAmountOfRow.holds Try.pinned (OpenSpec.ofChange fnExactAmountOfWrong)

/-- 'laws.FnExactCountKind': WHATEVER THE INPUT: true; the input reads as it did. -/
def fnExactCountKindSpec : ChangeSpec := { name := "fnExactCountKind", fn := fun _ => fun
  | [d1, d2] => { results := [.lit (.bool true)], args := [d1, d2] }
  | _ => none }
def fnExactCountKindRow : OpenClaim := { program := "ytgkohbjphajgoaa", sum := "3d126e3e32f1314fae45e3e1f1c0a4472e8e9eaff16011e9b2daed6cf979626a", func := "loop.example/g01263/laws.FnExactCountKind", spec := "fnExactCountKind", apart := false }
def FnExactCountKindSaid : Prop := fnExactCountKindRow.holds Try.pinned (OpenSpec.ofChange fnExactCountKindSpec)

/-- ITS FALSE NEIGHBOUR: 'it returns false'. Refute it at one input. -/
def fnExactCountKindWrong : ChangeSpec := { name := "fnExactCountKind", fn := fun _ => fun
  | [d1, d2] => { results := [.lit (.bool false)], args := [d1, d2] }
  | _ => none }
def FnExactCountKindWrongFalsely : Prop := fnExactCountKindRow.holds Try.pinned (OpenSpec.ofChange fnExactCountKindWrong)

/-- 'laws.FnExactFits': WHATEVER THE INPUT: true; the input reads as it did. -/
def fnExactFitsSpec : ChangeSpec := { name := "fnExactFits", fn := fun _ => fun
  | [d1, d2, d3] => { results := [.lit (.bool true)], args := [d1, d2, d3] }
  | _ => none }
def fnExactFitsRow : OpenClaim := { program := "ytgkohbjphajgoaa", sum := "3d126e3e32f1314fae45e3e1f1c0a4472e8e9eaff16011e9b2daed6cf979626a", func := "loop.example/g01263/laws.FnExactFits", spec := "fnExactFits", apart := false }
def FnExactFitsSaid : Prop := fnExactFitsRow.holds Try.pinned (OpenSpec.ofChange fnExactFitsSpec)

/-- ITS FALSE NEIGHBOUR: 'it returns false'. Refute it at one input. -/
def fnExactFitsWrong : ChangeSpec := { name := "fnExactFits", fn := fun _ => fun
  | [d1, d2, d3] => { results := [.lit (.bool false)], args := [d1, d2, d3] }
  | _ => none }
def FnExactFitsWrongFalsely : Prop := fnExactFitsRow.holds Try.pinned (OpenSpec.ofChange fnExactFitsWrong)

/-- 'laws.FnExactMisfitsOf': WHATEVER THE INPUT: true; the input reads as it did. -/
def fnExactMisfitsOfSpec : ChangeSpec := { name := "fnExactMisfitsOf", fn := fun _ => fun
  | [d1, d2] => { results := [.lit (.bool true)], args := [d1, d2] }
  | _ => none }
def fnExactMisfitsOfRow : OpenClaim := { program := "ytgkohbjphajgoaa", sum := "3d126e3e32f1314fae45e3e1f1c0a4472e8e9eaff16011e9b2daed6cf979626a", func := "loop.example/g01263/laws.FnExactMisfitsOf", spec := "fnExactMisfitsOf", apart := false }
def FnExactMisfitsOfSaid : Prop := fnExactMisfitsOfRow.holds Try.pinned (OpenSpec.ofChange fnExactMisfitsOfSpec)

/-- ITS FALSE NEIGHBOUR: 'it returns false'. Refute it at one input. -/
def fnExactMisfitsOfWrong : ChangeSpec := { name := "fnExactMisfitsOf", fn := fun _ => fun
  | [d1, d2] => { results := [.lit (.bool false)], args := [d1, d2] }
  | _ => none }
def FnExactMisfitsOfWrongFalsely : Prop := fnExactMisfitsOfRow.holds Try.pinned (OpenSpec.ofChange fnExactMisfitsOfWrong)

/- THE SECOND FORM. 'bulk': how many values and letters a reading holds, each counted each time it is reached (what is shared counts as often as it is met; a slice's spare places count too). A statement '..UptoSaid' is the law's where the arguments, and the package variables that the reading takes, are together of bulk at most 1048576: NARROWER than '..Said'. Prove '..Said' where nothing that the law and all that it calls make is longer than what came in: it says more and counts as full. Else prove '..UptoSaid'. A law counts once. -/
mutual
def uptoBulk {H : Type} : DataW H → Nat
  | .lit (.string bytes) => bytes.length + 1
  | .lit _ => 1
  | .nil => 1
  | .ptr d => uptoBulk d + 1
  | .slice elems spare => uptoBulkAll elems + uptoBulkAll spare + 1
  | .agg parts => uptoBulkAll parts + 1
  | .iface _ d => uptoBulk d + 1
  | .map entries => uptoBulkEntries entries + 1
  | .held _ => 1
def uptoBulkAll {H : Type} : List (DataW H) → Nat
  | [] => 0
  | d :: r => uptoBulk d + uptoBulkAll r
def uptoBulkEntries {H : Type} : List (Lit × DataW H) → Nat
  | [] => 0
  | x :: r => uptoBulkEntry x + uptoBulkEntries r
def uptoBulkEntry {H : Type} : Lit × DataW H → Nat
  | (.string bytes, d) => bytes.length + uptoBulk d + 1
  | (_, d) => uptoBulk d + 1
 end
def uptoSmall : (H : Type) → List (DataW H) → Bool := fun _ ds => decide (uptoBulkAll ds ≤ 1048576)
def OpenSpec.upto (s : _root_.Go.ChangeSpec) : _root_.Go.OpenSpec := { _root_.Go.OpenSpec.ofChange s with cond := some uptoSmall }

/-- 'laws.FnExactValidGrain', WHERE WHAT IT READS IS OF BULK AT MOST 1048576: true; the input reads as it did. -/
def fnExactValidGrainUptoRow : OpenClaim := { program := "ytgkohbjphajgoaa", sum := "3d126e3e32f1314fae45e3e1f1c0a4472e8e9eaff16011e9b2daed6cf979626a", func := "loop.example/g01263/laws.FnExactValidGrain", spec := "fnExactValidGrain", apart := false, narrowed := true }
def FnExactValidGrainUptoSaid : Prop := fnExactValidGrainUptoRow.holds Try.pinned (OpenSpec.upto fnExactValidGrainSpec)

/-- 'laws.FnExactGrainFrom', WHERE WHAT IT READS IS OF BULK AT MOST 1048576: true; the input reads as it did. -/
def fnExactGrainFromUptoRow : OpenClaim := { program := "ytgkohbjphajgoaa", sum := "3d126e3e32f1314fae45e3e1f1c0a4472e8e9eaff16011e9b2daed6cf979626a", func := "loop.example/g01263/laws.FnExactGrainFrom", spec := "fnExactGrainFrom", apart := false, narrowed := true }
def FnExactGrainFromUptoSaid : Prop := fnExactGrainFromUptoRow.holds Try.pinned (OpenSpec.upto fnExactGrainFromSpec)

/-- 'laws.FnExactOppositeGrain', WHERE WHAT IT READS IS OF BULK AT MOST 1048576: true; the input reads as it did. -/
def fnExactOppositeGrainUptoRow : OpenClaim := { program := "ytgkohbjphajgoaa", sum := "3d126e3e32f1314fae45e3e1f1c0a4472e8e9eaff16011e9b2daed6cf979626a", func := "loop.example/g01263/laws.FnExactOppositeGrain", spec := "fnExactOppositeGrain", apart := false, narrowed := true }
def FnExactOppositeGrainUptoSaid : Prop := fnExactOppositeGrainUptoRow.holds Try.pinned (OpenSpec.upto fnExactOppositeGrainSpec)

/-- 'laws.FnExactWearGrain', WHERE WHAT IT READS IS OF BULK AT MOST 1048576: true; the input reads as it did. -/
def fnExactWearGrainUptoRow : OpenClaim := { program := "ytgkohbjphajgoaa", sum := "3d126e3e32f1314fae45e3e1f1c0a4472e8e9eaff16011e9b2daed6cf979626a", func := "loop.example/g01263/laws.FnExactWearGrain", spec := "fnExactWearGrain", apart := false, narrowed := true }
def FnExactWearGrainUptoSaid : Prop := fnExactWearGrainUptoRow.holds Try.pinned (OpenSpec.upto fnExactWearGrainSpec)

/-- 'laws.FnExactFitsGrain', WHERE WHAT IT READS IS OF BULK AT MOST 1048576: true; the input reads as it did. -/
def fnExactFitsGrainUptoRow : OpenClaim := { program := "ytgkohbjphajgoaa", sum := "3d126e3e32f1314fae45e3e1f1c0a4472e8e9eaff16011e9b2daed6cf979626a", func := "loop.example/g01263/laws.FnExactFitsGrain", spec := "fnExactFitsGrain", apart := false, narrowed := true }
def FnExactFitsGrainUptoSaid : Prop := fnExactFitsGrainUptoRow.holds Try.pinned (OpenSpec.upto fnExactFitsGrainSpec)

/-- 'laws.FnExactSameHalf', WHERE WHAT IT READS IS OF BULK AT MOST 1048576: true; the input reads as it did. -/
def fnExactSameHalfUptoRow : OpenClaim := { program := "ytgkohbjphajgoaa", sum := "3d126e3e32f1314fae45e3e1f1c0a4472e8e9eaff16011e9b2daed6cf979626a", func := "loop.example/g01263/laws.FnExactSameHalf", spec := "fnExactSameHalf", apart := false, narrowed := true }
def FnExactSameHalfUptoSaid : Prop := fnExactSameHalfUptoRow.holds Try.pinned (OpenSpec.upto fnExactSameHalfSpec)

/-- 'laws.FnExactValidHalf', WHERE WHAT IT READS IS OF BULK AT MOST 1048576: true; the input reads as it did. -/
def fnExactValidHalfUptoRow : OpenClaim := { program := "ytgkohbjphajgoaa", sum := "3d126e3e32f1314fae45e3e1f1c0a4472e8e9eaff16011e9b2daed6cf979626a", func := "loop.example/g01263/laws.FnExactValidHalf", spec := "fnExactValidHalf", apart := false, narrowed := true }
def FnExactValidHalfUptoSaid : Prop := fnExactValidHalfUptoRow.holds Try.pinned (OpenSpec.upto fnExactValidHalfSpec)

/-- 'laws.FnExactEndOf', WHERE WHAT IT READS IS OF BULK AT MOST 1048576: true; the input reads as it did. -/
def fnExactEndOfUptoRow : OpenClaim := { program := "ytgkohbjphajgoaa", sum := "3d126e3e32f1314fae45e3e1f1c0a4472e8e9eaff16011e9b2daed6cf979626a", func := "loop.example/g01263/laws.FnExactEndOf", spec := "fnExactEndOf", apart := false, narrowed := true }
def FnExactEndOfUptoSaid : Prop := fnExactEndOfUptoRow.holds Try.pinned (OpenSpec.upto fnExactEndOfSpec)

/-- 'laws.FnExactAmountOf', WHERE WHAT IT READS IS OF BULK AT MOST 1048576: true; the input reads as it did. -/
def fnExactAmountOfUptoRow : OpenClaim := { program := "ytgkohbjphajgoaa", sum := "3d126e3e32f1314fae45e3e1f1c0a4472e8e9eaff16011e9b2daed6cf979626a", func := "loop.example/g01263/laws.FnExactAmountOf", spec := "fnExactAmountOf", apart := false, narrowed := true }
def FnExactAmountOfUptoSaid : Prop := fnExactAmountOfUptoRow.holds Try.pinned (OpenSpec.upto fnExactAmountOfSpec)

/-- 'laws.FnExactCountKind', WHERE WHAT IT READS IS OF BULK AT MOST 1048576: true; the input reads as it did. -/
def fnExactCountKindUptoRow : OpenClaim := { program := "ytgkohbjphajgoaa", sum := "3d126e3e32f1314fae45e3e1f1c0a4472e8e9eaff16011e9b2daed6cf979626a", func := "loop.example/g01263/laws.FnExactCountKind", spec := "fnExactCountKind", apart := false, narrowed := true }
def FnExactCountKindUptoSaid : Prop := fnExactCountKindUptoRow.holds Try.pinned (OpenSpec.upto fnExactCountKindSpec)

/-- 'laws.FnExactFits', WHERE WHAT IT READS IS OF BULK AT MOST 1048576: true; the input reads as it did. -/
def fnExactFitsUptoRow : OpenClaim := { program := "ytgkohbjphajgoaa", sum := "3d126e3e32f1314fae45e3e1f1c0a4472e8e9eaff16011e9b2daed6cf979626a", func := "loop.example/g01263/laws.FnExactFits", spec := "fnExactFits", apart := false, narrowed := true }
def FnExactFitsUptoSaid : Prop := fnExactFitsUptoRow.holds Try.pinned (OpenSpec.upto fnExactFitsSpec)

/-- 'laws.FnExactMisfitsOf', WHERE WHAT IT READS IS OF BULK AT MOST 1048576: true; the input reads as it did. -/
def fnExactMisfitsOfUptoRow : OpenClaim := { program := "ytgkohbjphajgoaa", sum := "3d126e3e32f1314fae45e3e1f1c0a4472e8e9eaff16011e9b2daed6cf979626a", func := "loop.example/g01263/laws.FnExactMisfitsOf", spec := "fnExactMisfitsOf", apart := false, narrowed := true }
def FnExactMisfitsOfUptoSaid : Prop := fnExactMisfitsOfUptoRow.holds Try.pinned (OpenSpec.upto fnExactMisfitsOfSpec)

end Rows
end Go.Proofs.Ytgkohbjphajgoaa
