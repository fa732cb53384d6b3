/- Words for this claim: the table that the library's count of trailing zeros reads, along the worlds of a call. -/
import Derived.Test.YtcghnnhhgngddaaDoorRows
import Derived.Test.YtcghnnhhgngddaaDoorVSettledWWords
import Derived.Lib.AppendIntMem
import Derived.Lib.LaidTab
import Derived.Shelf.Spec.TrailingZeros
import Derived.WalkKit
namespace Go.Proofs.YtcghnnhhgngddaaDoor.Tt
open Go Go.RowKit Go.Proofs.YtcghnnhhgngddaaDoorW.PrintWords
set_option linter.unusedVariables false

def tab : List Int := Lib.deBruijn64tab.map fun (n : Nat) => (n : Int)
def TT (w : World) : Prop := Lib.TabIs Tryd.prog w "math/bits.deBruijn64tab" .u8 tab
theorem TT_on {w w' : World} (h : TT w) (hb : Below w.heap.size w w') : TT w' := Lib.tabBelow_of_tabIs h w' hb
theorem TT_of {w : World} (h : Lib.TabIs Tryd.prog w "math/bits.deBruijn64tab" .u8 tab) (hsh : w.ShapedOpen Tryd.prog) : TT w := h

theorem tab_at : ∀ j, j < 64 → tab.getD j 0 = ((Lib.deBruijn64tab.getD j 0 : Nat) : Int) := by decide +kernel
set_option maxHeartbeats 1000000 in
theorem tz64_core (x k idx : Nat) (w : World) (hx0 : ((x : Int) == 0) = false)
    (key : IntKind.u64.wrap (bits BinOp.and IntKind.u64 (x : Int) (IntKind.u64.wrap (-(x : Int))) * 285870213051353865) / 288230376151711744 = (idx : Int))
    (hi : idx < 64) (hk : k < 64) (hcell : w.cell? ⟨1, idx, none⟩ = some (.int .u8 k)) :
    Calls Tryd.prog 51 #[.int .u64 x] w fun e w' => e = .returned (.int .i64 k) ∧ w' = w := by
  go_enter Tryd.func51, Tryd.ntmps51
  go_wp2_with (simp only [key])
  go_ret
  exact ⟨rfl, rfl⟩
theorem tz64 (x : Nat) (hx : x < 18446744073709551616) (hx0 : x ≠ 0) (w : World) (hT : TT w) :
    Calls Tryd.prog 51 #[.int .u64 x] w fun e w' => e = .returned (.int .i64 (Lib.ctz 64 x)) ∧ w' = w := by
  obtain ⟨hlow, hk⟩ := Lib.lowest_bit 64 x hx0 hx
  obtain ⟨hi, htab⟩ := Lib.deBruijn64_at _ hk
  have hcell := Lib.TabIs.cell hT (g := 1) (by kernel_rfl) (2 ^ Lib.ctz 64 x * 285870213051353865 % 18446744073709551616 / 288230376151711744) hi
  rw [tab_at _ hi, htab] at hcell
  exact tz64_core x _ _ w (by simp; omega) (tz64_key x _ hx hx0 hlow) hi hk hcell
theorem tz_nat (x : Nat) (hx : x < 18446744073709551616) (hx0 : x ≠ 0) (w : World) (hT : TT w) :
    Calls Tryd.prog 43 #[.int .u64 x] w fun e w' => e = .returned (.int .i64 (Lib.ctz 64 x)) ∧ w' = w := by
  have c64 := tz64 x hx hx0 w hT
  have e51 : ∀ args w, (callFunc 51 args).run Tryd.prog w = .ok (.enter 51 args) w := enters_of Tryd.func51 (by kernel_rfl) rfl
  go_enter Tryd.func43, Tryd.ntmps43
  go_wp2_with (go_at_fn 51; refine c64.mono ?_; rintro e w' ⟨rfl, hw'⟩; rw [hw'])
  go_ret
  exact ⟨rfl, rfl⟩
theorem tz_call (f : Nat) (hf : f = 43) (x : Int) (w : World) (hT : TT w) (h0 : 0 < x) (h1 : x < 18446744073709551616) :
    Calls Tryd.prog f #[.int .u64 x] w fun e w' => e = .returned (.int .i64 (Lib.ctz 64 x.toNat)) ∧ Below w.heap.size w w' := by
  subst hf
  obtain ⟨n, rfl⟩ : ∃ n : Nat, x = (n : Int) := ⟨x.toNat, by omega⟩
  refine (tz_nat n (by omega) (by omega) w hT).mono ?_
  rintro e w' ⟨he, rfl⟩
  exact ⟨he, Below.refl _ _⟩
end Go.Proofs.YtcghnnhhgngddaaDoor.Tt
