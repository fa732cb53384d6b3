/-
  No cell of these rows narrows 'for every input' (looked for: loops, veiled, ifaces, maps, wideKeys, modest, calm, conditions, laid).
  DERIVED. THE GIVEN ROWS OF THIS SEAT. 4 by the template 'for every input the law returns true; each argument reads behind the call as it read before'; 0 by the template 'total and deterministic' (their statements: YtcblnnfodpglaaaTotals.lean).
  GIVEN WITH THE SEED: the statements are not yours to turn. If you find one false, say at which input.
  Laid BY PROGRAM, IN A SANDBOX (cutbox-rows.mjs): the forced cells as the released guide's own fill.sh prints them over the translation c5fd31bfca4e1c98… (all of the seat's roots in one cut). By AI agents, Wed Nov 11 2026. No macro, syntax, notation, axiom, sorry.
-/
import Derived.Test.YtcblnnfodpglaaaChecked
import GoSem.Claim
import GoSem.ClaimJoined
import GoSem.ClaimMapViews
import Derived.JoinedTies
import Derived.KernelRfl
namespace Go.Proofs.Ytcblnnfodpglaaa
/- THE CELL 'sum', in the pinned program and in every row, IS THE sha256 OF THE DUMP (.gsa) THAT YtcblnnfodpglaaaProg.lean LOADS. Nothing in Lean hashes anything: it is a label: what it is worth is what the hold of that sum in a sandbox is worth. -/
noncomputable def Try.pinned : Pinned := { name := "ytcblnnfodpglaaa", sum := "c5fd31bfca4e1c983d253e4195ee0ac6b5c8e7d67096efad042b094fb54dc83e", checked := Try.checked }
namespace Rows
def none {H : Type} : Left H := { results := [], args := [] }

/-- 'laws.FnExactCutStick': WHATEVER THE INPUT: true; the input reads as it did. -/
def fnExactCutStickSpec : ChangeSpec := { name := "fnExactCutStick", fn := fun _ => fun
  | [d1, d2] => { results := [.lit (.bool true)], args := [d1, d2] }
  | _ => none }
def fnExactCutStickRow : OpenClaim := { program := "ytcblnnfodpglaaa", sum := "c5fd31bfca4e1c983d253e4195ee0ac6b5c8e7d67096efad042b094fb54dc83e", func := "loop.example/g01263/laws.FnExactCutStick", spec := "fnExactCutStick", apart := false }
def FnExactCutStickSaid : Prop := fnExactCutStickRow.holds Try.pinned (OpenSpec.ofChange fnExactCutStickSpec)

/-- ITS FALSE NEIGHBOUR: 'it returns false'. Refute it at one input. -/
def fnExactCutStickWrong : ChangeSpec := { name := "fnExactCutStick", fn := fun _ => fun
  | [d1, d2] => { results := [.lit (.bool false)], args := [d1, d2] }
  | _ => none }
def FnExactCutStickWrongFalsely : Prop := fnExactCutStickRow.holds Try.pinned (OpenSpec.ofChange fnExactCutStickWrong)

/-- 'laws.FnSticks': WHATEVER THE INPUT: true; the input reads as it did. -/
def fnSticksSpec : ChangeSpec := { name := "fnSticks", fn := fun _ => fun
  | [d1, d2] => { results := [.lit (.bool true)], args := [d1, d2] }
  | _ => none }
def fnSticksRow : OpenClaim := { program := "ytcblnnfodpglaaa", sum := "c5fd31bfca4e1c983d253e4195ee0ac6b5c8e7d67096efad042b094fb54dc83e", func := "loop.example/g01263/laws.FnSticks", spec := "fnSticks", apart := false }
def FnSticksSaid : Prop := fnSticksRow.holds Try.pinned (OpenSpec.ofChange fnSticksSpec)

/-- ITS FALSE NEIGHBOUR: 'it returns false'. Refute it at one input. -/
def fnSticksWrong : ChangeSpec := { name := "fnSticks", fn := fun _ => fun
  | [d1, d2] => { results := [.lit (.bool false)], args := [d1, d2] }
  | _ => none }
def FnSticksWrongFalsely : Prop := fnSticksRow.holds Try.pinned (OpenSpec.ofChange fnSticksWrong)

/-- 'laws.FnExactCutNotch': WHATEVER THE INPUT: true; the input reads as it did. -/
def fnExactCutNotchSpec : ChangeSpec := { name := "fnExactCutNotch", fn := fun _ => fun
  | [d1, d2, d3] => { results := [.lit (.bool true)], args := [d1, d2, d3] }
  | _ => none }
def fnExactCutNotchRow : OpenClaim := { program := "ytcblnnfodpglaaa", sum := "c5fd31bfca4e1c983d253e4195ee0ac6b5c8e7d67096efad042b094fb54dc83e", func := "loop.example/g01263/laws.FnExactCutNotch", spec := "fnExactCutNotch", inPlace := ["slices.overlaps[loop.example/g01263/impl.Notch]"], apart := false }
def FnExactCutNotchSaid : Prop := fnExactCutNotchRow.holds Try.pinned (OpenSpec.ofChange fnExactCutNotchSpec)

/-- ITS FALSE NEIGHBOUR: 'it returns false'. Refute it at one input. -/
def fnExactCutNotchWrong : ChangeSpec := { name := "fnExactCutNotch", fn := fun _ => fun
  | [d1, d2, d3] => { results := [.lit (.bool false)], args := [d1, d2, d3] }
  | _ => none }
def FnExactCutNotchWrongFalsely : Prop := fnExactCutNotchRow.holds Try.pinned (OpenSpec.ofChange fnExactCutNotchWrong)

/-- 'laws.FnExactRoomFor': WHATEVER THE INPUT: true; the input reads as it did. -/
def fnExactRoomForSpec : ChangeSpec := { name := "fnExactRoomFor", fn := fun _ => fun
  | [d1, d2] => { results := [.lit (.bool true)], args := [d1, d2] }
  | _ => none }
def fnExactRoomForRow : OpenClaim := { program := "ytcblnnfodpglaaa", sum := "c5fd31bfca4e1c983d253e4195ee0ac6b5c8e7d67096efad042b094fb54dc83e", func := "loop.example/g01263/laws.FnExactRoomFor", spec := "fnExactRoomFor", inPlace := ["slices.overlaps[loop.example/g01263/impl.Notch]"], apart := false }
def FnExactRoomForSaid : Prop := fnExactRoomForRow.holds Try.pinned (OpenSpec.ofChange fnExactRoomForSpec)

/-- ITS FALSE NEIGHBOUR: 'it returns false'. Refute it at one input. -/
def fnExactRoomForWrong : ChangeSpec := { name := "fnExactRoomFor", fn := fun _ => fun
  | [d1, d2] => { results := [.lit (.bool false)], args := [d1, d2] }
  | _ => none }
def FnExactRoomForWrongFalsely : Prop := fnExactRoomForRow.holds Try.pinned (OpenSpec.ofChange fnExactRoomForWrong)

/- THE SECOND FORM. 'bulk': how many values and letters a reading holds, each counted each time it is reached (what is shared counts as often as it is met; a slice's spare places count too). A statement '..UptoSaid' is the law's where the arguments, and the package variables that the reading takes, are together of bulk at most 1048576: NARROWER than '..Said'. Prove '..Said' where nothing that the law and all that it calls make is longer than what came in: it says more and counts as full. Else prove '..UptoSaid'. A law counts once. -/
mutual
def uptoBulk {H : Type} : DataW H → Nat
  | .lit (.string bytes) => bytes.length + 1
  | .lit _ => 1
  | .nil => 1
  | .ptr d => uptoBulk d + 1
  | .slice elems spare => uptoBulkAll elems + uptoBulkAll spare + 1
  | .agg parts => uptoBulkAll parts + 1
  | .iface _ d => uptoBulk d + 1
  | .map entries => uptoBulkEntries entries + 1
  | .held _ => 1
def uptoBulkAll {H : Type} : List (DataW H) → Nat
  | [] => 0
  | d :: r => uptoBulk d + uptoBulkAll r
def uptoBulkEntries {H : Type} : List (Lit × DataW H) → Nat
  | [] => 0
  | x :: r => uptoBulkEntry x + uptoBulkEntries r
def uptoBulkEntry {H : Type} : Lit × DataW H → Nat
  | (.string bytes, d) => bytes.length + uptoBulk d + 1
  | (_, d) => uptoBulk d + 1
 end
def uptoSmall : (H : Type) → List (DataW H) → Bool := fun _ ds => decide (uptoBulkAll ds ≤ 1048576)
def OpenSpec.upto (s : _root_.Go.ChangeSpec) : _root_.Go.OpenSpec := { _root_.Go.OpenSpec.ofChange s with cond := some uptoSmall }

/-- 'laws.FnExactCutStick', WHERE WHAT IT READS IS OF BULK AT MOST 1048576: true; the input reads as it did. -/
def fnExactCutStickUptoRow : OpenClaim := { program := "ytcblnnfodpglaaa", sum := "c5fd31bfca4e1c983d253e4195ee0ac6b5c8e7d67096efad042b094fb54dc83e", func := "loop.example/g01263/laws.FnExactCutStick", spec := "fnExactCutStick", apart := false, narrowed := true }
def FnExactCutStickUptoSaid : Prop := fnExactCutStickUptoRow.holds Try.pinned (OpenSpec.upto fnExactCutStickSpec)

/-- 'laws.FnSticks', WHERE WHAT IT READS IS OF BULK AT MOST 1048576: true; the input reads as it did. -/
def fnSticksUptoRow : OpenClaim := { program := "ytcblnnfodpglaaa", sum := "c5fd31bfca4e1c983d253e4195ee0ac6b5c8e7d67096efad042b094fb54dc83e", func := "loop.example/g01263/laws.FnSticks", spec := "fnSticks", apart := false, narrowed := true }
def FnSticksUptoSaid : Prop := fnSticksUptoRow.holds Try.pinned (OpenSpec.upto fnSticksSpec)

/-- 'laws.FnExactCutNotch', WHERE WHAT IT READS IS OF BULK AT MOST 1048576: true; the input reads as it did. -/
def fnExactCutNotchUptoRow : OpenClaim := { program := "ytcblnnfodpglaaa", sum := "c5fd31bfca4e1c983d253e4195ee0ac6b5c8e7d67096efad042b094fb54dc83e", func := "loop.example/g01263/laws.FnExactCutNotch", spec := "fnExactCutNotch", inPlace := ["slices.overlaps[loop.example/g01263/impl.Notch]"], apart := false, narrowed := true }
def FnExactCutNotchUptoSaid : Prop := fnExactCutNotchUptoRow.holds Try.pinned (OpenSpec.upto fnExactCutNotchSpec)

/-- 'laws.FnExactRoomFor', WHERE WHAT IT READS IS OF BULK AT MOST 1048576: true; the input reads as it did. -/
def fnExactRoomForUptoRow : OpenClaim := { program := "ytcblnnfodpglaaa", sum := "c5fd31bfca4e1c983d253e4195ee0ac6b5c8e7d67096efad042b094fb54dc83e", func := "loop.example/g01263/laws.FnExactRoomFor", spec := "fnExactRoomFor", inPlace := ["slices.overlaps[loop.example/g01263/impl.Notch]"], apart := false, narrowed := true }
def FnExactRoomForUptoSaid : Prop := fnExactRoomForUptoRow.holds Try.pinned (OpenSpec.upto fnExactRoomForSpec)

end Rows
end Go.Proofs.Ytcblnnfodpglaaa
