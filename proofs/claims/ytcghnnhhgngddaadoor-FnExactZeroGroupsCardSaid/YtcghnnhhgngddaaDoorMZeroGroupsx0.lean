-- by a program of this session, for this claim
import Derived.Test.YtcghnnhhgngddaaDoorProg
import Derived.Test.YtcghnnhhgngddaaDoorArr
import Derived.Test.YtcghnnhhgngddaaDoorTt
import Derived.Test.YtcghnnhhgngddaaDoorArr2
import Derived.Below
import Derived.Deep.Draws
import Derived.Deep.AppendLies
import Derived.Maps.AppendAt
import Derived.OwnWalk
import Derived.Laws.BytesArg
import Derived.Laws.MakeOwn
import Derived.Laws.OwnMore
import Derived.Deep.OwnRows
import Derived.Tactics
import Derived.Lib.ConvBytes
import Derived.Laws.Slices
import Derived.WalkKit
import Derived.KernelRfl
import Derived.RowKit3
import Derived.Deep.LoopGhost
import Derived.Deep.QuietTactic
import Derived.BigQuiet
import Derived.WideLaws
import Derived.Deep.DeepCutAuto
import Derived.Deep.CutBlock
import Derived.Deep.RegionHeld3
import Derived.Laws.Rows
import Derived.Lib.AppendStr
import Derived.ArgAppend
import Derived.Laws.IdiomCopy
import Derived.OrdersHeld
import Derived.Laws.BitsLemmas
import Derived.RowKit
import Derived.Lib.SliceRun
import Derived.Test.YtcghnnhhgngddaaDoorWWords
import Derived.Test.YtcghnnhhgngddaaDoorWLast
import Derived.Test.YtcghnnhhgngddaaDoorWTab
import Derived.Test.YtcghnnhhgngddaaDoorWFour
import Derived.Test.YtcghnnhhgngddaaDoorWQPut
import Derived.Test.YtcghnnhhgngddaaDoorWApart
import Derived.Test.YtcghnnhhgngddaaDoorWArr
import Derived.Test.YtcghnnhhgngddaaDoorWZeros
import Derived.Test.YtcghnnhhgngddaaDoorWFoot
import Derived.Test.YtcghnnhhgngddaaDoorWKept
import Derived.Test.YtcghnnhhgngddaaDoorWShare
import Derived.Test.YtcghnnhhgngddaaDoorWN
import Derived.Test.YtcghnnhhgngddaaDoorWFootNe
import Derived.Test.YtcghnnhhgngddaaDoorWAt
import Derived.Test.YtcghnnhhgngddaaDoorWEqStruct
import Derived.Test.YtcghnnhhgngddaaDoorWRepsOne
import Derived.Test.YtcghnnhhgngddaaDoorWInv
import Derived.Test.YtcghnnhhgngddaaDoorWInvWords
import Derived.Test.YtcghnnhhgngddaaDoorWGuard
import Derived.Test.YtcghnnhhgngddaaDoorWNEv
import Derived.Test.YtcghnnhhgngddaaDoorWMore
namespace Go.Proofs.YtcghnnhhgngddaaDoor.MZeroGroups
open Go.RowKit Go.Proofs.YtcghnnhhgngddaaDoorW.PrintWords Go.Proofs.YtcghnnhhgngddaaDoorW.PrintLast Go.Proofs.YtcghnnhhgngddaaDoorW.PrintMore
attribute [local go_sem] max2_int min2_int max_two min_two max_three min_three max_four min_four   -- for this text's walks alone
set_option linter.unusedVariables false
set_option linter.unusedSimpArgs false



def errW : Option Int → Value
  | none => .nilIface
  | some c => .iface 0 (.int .i64 c)
theorem errW_none : errW none = .nilIface := rfl
theorem errW_some (c : Int) : errW (some c) = .iface 0 (.int .i64 c) := rfl

theorem info2 : (Tryd.prog.info? 2).map (fun i => (i.zero, i.size, i.bytes)) = some (some (.int .i64 0), 1, 8) := by kernel_rfl
theorem info3 : (Tryd.prog.info? 3).map (fun i => (i.zero, i.size, i.bytes)) = some (some (.int .i64 0), 1, 8) := by kernel_rfl
-- the values' own types

end Go.Proofs.YtcghnnhhgngddaaDoor.MZeroGroups
