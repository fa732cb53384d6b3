-- by a program of this session, for this claim
import Derived.Test.YtfjmljgbdejghaaDoorProg
import Derived.Test.YtfjmljgbdejghaaDoorVReadHalfArr
import Derived.Test.YtfjmljgbdejghaaDoorTtReadHalf
import Derived.Test.YtfjmljgbdejghaaDoorArr2
import Derived.Below
import Derived.Deep.Draws
import Derived.Deep.AppendLies
import Derived.Maps.AppendAt
import Derived.OwnWalk
import Derived.Laws.BytesArg
import Derived.Laws.MakeOwn
import Derived.Laws.OwnMore
import Derived.Deep.OwnRows
import Derived.Tactics
import Derived.Lib.ConvBytes
import Derived.Laws.Slices
import Derived.WalkKit
import Derived.KernelRfl
import Derived.RowKit3
import Derived.Deep.LoopGhost
import Derived.Deep.QuietTactic
import Derived.BigQuiet
import Derived.WideLaws
import Derived.Deep.DeepCutAuto
import Derived.Deep.CutBlock
import Derived.Deep.RegionHeld3
import Derived.Laws.Rows
import Derived.Lib.AppendStr
import Derived.ArgAppend
import Derived.Laws.IdiomCopy
import Derived.OrdersHeld
import Derived.Laws.BitsLemmas
import Derived.RowKit
import Derived.Lib.SliceRun
import Derived.Test.YtfjmljgbdejghaaDoorVReadHalfWWords
import Derived.Test.YtfjmljgbdejghaaDoorVReadHalfWLast
import Derived.Test.YtfjmljgbdejghaaDoorVReadHalfWTab
import Derived.Test.YtfjmljgbdejghaaDoorVReadHalfWFour
import Derived.Test.YtfjmljgbdejghaaDoorVReadHalfWQPut
import Derived.Test.YtfjmljgbdejghaaDoorVReadHalfWApart
import Derived.Test.YtfjmljgbdejghaaDoorVReadHalfWArr
import Derived.Test.YtfjmljgbdejghaaDoorVReadHalfWZeros
import Derived.Test.YtfjmljgbdejghaaDoorVReadHalfWFoot
import Derived.Test.YtfjmljgbdejghaaDoorVReadHalfWKept
import Derived.Test.YtfjmljgbdejghaaDoorVReadHalfWShare
import Derived.Test.YtfjmljgbdejghaaDoorVReadHalfWN
import Derived.Test.YtfjmljgbdejghaaDoorVReadHalfWFootNe
import Derived.Test.YtfjmljgbdejghaaDoorVReadHalfWAt
import Derived.Test.YtfjmljgbdejghaaDoorVReadHalfWEqStruct
import Derived.Test.YtfjmljgbdejghaaDoorVReadHalfWRepsOne
import Derived.Test.YtfjmljgbdejghaaDoorVReadHalfWInv
import Derived.Test.YtfjmljgbdejghaaDoorVReadHalfWInvWords
import Derived.Test.YtfjmljgbdejghaaDoorVReadHalfWGuard
import Derived.Test.YtfjmljgbdejghaaDoorVReadHalfWNEv
import Derived.Test.YtfjmljgbdejghaaDoorVReadHalfWMore
namespace Go.Proofs.YtfjmljgbdejghaaDoor.MReadHalf
open Go.RowKit Go.Proofs.YtfjmljgbdejghaaDoorW.PrintWords Go.Proofs.YtfjmljgbdejghaaDoorW.PrintLast Go.Proofs.YtfjmljgbdejghaaDoorW.PrintMore
attribute [local go_sem] max2_int min2_int max_two min_two max_three min_three max_four min_four   -- for this text's walks alone
set_option linter.unusedVariables false
set_option linter.unusedSimpArgs false



def errW : Option Int → Value
  | none => .nilIface
  | some c => .iface 0 (.int .i64 c)
theorem errW_none : errW none = .nilIface := rfl
theorem errW_some (c : Int) : errW (some c) = .iface 0 (.int .i64 c) := rfl

theorem info2 : (Tryd.prog.info? 2).map (fun i => (i.zero, i.size, i.bytes)) = some (some (.int .i64 0), 1, 8) := by kernel_rfl
theorem info9 : (Tryd.prog.info? 9).map (fun i => (i.zero, i.size, i.bytes)) = some (some (.string ⟨#[]⟩), 1, 16) := by kernel_rfl
theorem info62 : (Tryd.prog.info? 62).map (fun i => (i.zero, i.size, i.bytes)) = some (some (.agg #[(.int .i8 0), (.int .i16 0)]), 2, 4) := by kernel_rfl
-- the values' own types
/-! #### struct type 62 -/
structure S62 where
  f0 : Int
  f1 : Int
def z62 : S62 := ⟨(0 : Int), (0 : Int)⟩
def k62 : Kd S62 := Kd.iso (Kd.pair (Kd.int .i8) (Kd.int .i16)) (fun x : S62 => (x.f0, x.f1))
theorem k62_open {w : World} {x : S62} {cs : List Value} (h : k62.K w x cs) : cs = [.int .i8 x.f0, .int .i16 x.f1] := by
  obtain ⟨_, _, rfl, rfl, rfl⟩ := h
  exact rfl
theorem k62_openM {w : World} {base : Nat} {ok : Nat → Prop} {x : S62} {cs : List Value} (h : k62.M w base ok x cs) : cs = [.int .i8 x.f0, .int .i16 x.f1] := by
  obtain ⟨_, _, rfl, rfl, rfl⟩ := h
  exact rfl
theorem k62_mk (w : World) (x : S62)  : k62.K w x [.int .i8 x.f0, .int .i16 x.f1] := ⟨[.int .i8 x.f0], [.int .i16 x.f1], rfl, rfl, rfl⟩
theorem k62_mkM (w : World) (base : Nat) (ok : Nat → Prop) (x : S62)  : k62.M w base ok x [.int .i8 x.f0, .int .i16 x.f1] := ⟨[.int .i8 x.f0], [.int .i16 x.f1], rfl, rfl, rfl⟩
def rd_T62 (xs : List S62) (i : Int) : S62 := xs.getD i.toNat z62
theorem at_T62 {w : World} {A : Option Addr} {n : Nat} {xs : List S62} (h : Kd.C k62 w A n xs) (i : Int) (h0 : 0 ≤ i) (h1 : i < n) : ∃ ad , A = some ad ∧ w.cell? (ad.add (i.toNat * 2)) = some (.int .i8 (rd_T62 xs i).f0) ∧ w.cell? ⟨(ad.add (i.toNat * 2)).block, (ad.add (i.toNat * 2)).off + 1, none⟩ = some (.int .i16 (rd_T62 xs i).f1) := by
  obtain ⟨ad, c, e, _, hK, hc0⟩ := Kd.C_get h z62 i h0 h1
  have hc : ∀ j u, c[j]? = some u → w.cell? (ad.add (i.toNat * 2 + j)) = some u := hc0
  obtain rfl := k62_open hK
  exact ⟨ad, e, hc 0 _ rfl, by rw [← add_field _ _ 1 (by omega)]; exact hc 1 _ rfl⟩

def rd_L5 (xs : List (List ByteArray)) (i : Int) : (List ByteArray) := xs.getD i.toNat ([] : List ByteArray)
theorem at_L5 {w : World} {A : Option Addr} {n : Nat} {xs : List (List ByteArray)} (h : Kd.C (Kd.slice 9 Kd.string) w A n xs) (i : Int) (h0 : 0 ≤ i) (h1 : i < n) : ∃ ad A0 c0, A = some ad ∧ w.cell? (ad.add i.toNat) = some (.slice A0 (rd_L5 xs i).length c0) ∧ (rd_L5 xs i).length ≤ c0 ∧ Kd.string.C w A0 (rd_L5 xs i).length (rd_L5 xs i) := by
  obtain ⟨ad, c, e, _, hK, hc0⟩ := Kd.C_get h ([] : List ByteArray) i h0 h1
  have hc : ∀ j u, c[j]? = some u → w.cell? (ad.add (i.toNat * 1 + j)) = some u := hc0
  obtain ⟨A0, c0, rfl, l0, g0⟩ := hK
  exact ⟨ad, A0, c0, e, by have hq := hc 0 _ rfl; rwa [Nat.mul_one, Nat.add_zero] at hq, l0, g0⟩

end Go.Proofs.YtfjmljgbdejghaaDoor.MReadHalf
