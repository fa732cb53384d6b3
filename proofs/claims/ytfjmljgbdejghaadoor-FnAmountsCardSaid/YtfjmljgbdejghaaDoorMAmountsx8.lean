-- by a program of this session, for this claim
import Derived.Test.YtfjmljgbdejghaaDoorMAmountsx0
import Derived.Test.YtfjmljgbdejghaaDoorMAmountsx2
import Derived.Test.YtfjmljgbdejghaaDoorMAmountsx3
import Derived.Test.YtfjmljgbdejghaaDoorMAmountsx5
import Derived.Test.YtfjmljgbdejghaaDoorMAmountsx7
namespace Go.Proofs.YtfjmljgbdejghaaDoor.MAmounts
open Go.RowKit Go.Proofs.YtfjmljgbdejghaaDoorW.PrintWords Go.Proofs.YtfjmljgbdejghaaDoorW.PrintLast Go.Proofs.YtfjmljgbdejghaaDoorW.PrintMore
attribute [local go_sem] max2_int min2_int max_two min_two max_three min_three max_four min_four   -- for this text's walks alone
set_option linter.unusedVariables false
set_option linter.unusedSimpArgs false

/-! ### laws_FnAmounts: function 8 -/
mutual
def laws_FnAmounts.j0 : Nat → Int → Int → List (S62) → Bool → Option (Bool)
  | 0, _, _, _, _ => none
  | k + 1, x3, x7, x8, x61 => if x61 = true then (some false) else (if x7 = 0 then (laws_FnAmounts.l0 k x3 x8 0 0) else (some (x7 == 3)))
def laws_FnAmounts.l0 : Nat → Int → List (S62) → Int → Int → Option (Bool)
  | 0, _, _, _, _ => none
  | k + 1, x3, x8, x10, x11 => if x11 < (x8.length : Int) then (if 0 ≤ x11 then ((impl_WorthOf.f (wrap64 ((rd_T62 x8 x11).f0))).bind fun bt250 => ((impl_WidthOf.f (wrap64 ((rd_T62 x8 x11).f0))).bind fun bt253 => (if bt250.2 = 0 then (if bt253.2 = 0 then (if bt253.1 < 1 then (some false) else (if x11 > 0 then (if 0 ≤ (wrap64 (x11 - 1)) then (if (wrap64 (x11 - 1)) < (x8.length : Int) then (if ((rd_T62 x8 x11).f0) > ((rd_T62 x8 (wrap64 (x11 - 1))).f0) then (some false) else (laws_FnAmounts.l0 k x3 x8 (wrap64 (x10 + bt250.1)) (wrap64 (x11 + 1)))) else (none)) else (none)) else (laws_FnAmounts.l0 k x3 x8 (wrap64 (x10 + bt250.1)) (wrap64 (x11 + 1))))) else (some false)) else (some false)))) else (none)) else ((impl_CountKind.f k false x8 (Vector.replicate 16 0 : Vector Int 16) 0).bind fun bt243 => ((impl_CountKind.f k false x8 (Vector.replicate 16 0 : Vector Int 16) 1).bind fun bt245 => ((impl_CountKind.f k false x8 (Vector.replicate 16 0 : Vector Int 16) 2).bind fun bt247 => (if x10 = x3 then (if bt243.2 = 0 then (if bt243.1 < 12 then (if bt245.2 = 0 then (if bt245.1 < 20 then (if bt247.2 = 0 then (some (decide (bt247.1 < 20))) else (some false)) else (some false)) else (some false)) else (some false)) else (some false)) else (some false)))))
end
def laws_FnAmounts.f (k : Nat) (l0 : List Int) : Option (Bool) := (laws_a2Long.f l0 l0).bind fun t228 => (if t228 = true then (some true) else ((spec_A2Amount.f l0).bind fun t229 => ((impl_AmountText.f k t229).bind fun t230 => ((impl_ReadAmount.f k t230).bind fun bt231 => ((impl_NotchesFor.f k t229).bind fun bt233 => ((spec_NotchesFor.f k t229).bind fun bt237 => (if bt231.2 = 0 then (if bt231.1 = t229 then (if bt233.2 = bt237.2 then ((spec_A2Notches.f k bt233.1 bt237.1).bind fun t241 => (laws_FnAmounts.j0 k t229 bt233.2 bt237.1 (!t241))) else (laws_FnAmounts.j0 k t229 bt233.2 bt237.1 true)) else (laws_FnAmounts.j0 k t229 bt233.2 bt237.1 true)) else (laws_FnAmounts.j0 k t229 bt233.2 bt237.1 true))))))))
theorem laws_FnAmounts.mono_l : ∀ k, (∀ y0 y1 y2 y3, LeO (laws_FnAmounts.j0 k y0 y1 y2 y3) (laws_FnAmounts.j0 (k + 1) y0 y1 y2 y3)) ∧ (∀ y0 y1 y2 y3, LeO (laws_FnAmounts.l0 k y0 y1 y2 y3) (laws_FnAmounts.l0 (k + 1) y0 y1 y2 y3))
  | 0 => ⟨fun _ _ _ _ r h => by simp [laws_FnAmounts.j0] at h, fun _ _ _ _ r h => by simp [laws_FnAmounts.l0] at h⟩
  | k + 1 => by
    obtain ⟨ih0, ih1⟩ := laws_FnAmounts.mono_l k
    refine ⟨?_, ?_⟩
    · intro y0 y1 y2 y3
      unfold laws_FnAmounts.j0
      repeat' first
      | (with_reducible exact ih0 _ _ _ _)
      | (with_reducible exact ih1 _ _ _ _)
      | (with_reducible exact impl_AmountText.mono _ _)
      | (with_reducible exact impl_CountKind.mono _ _ _ _ _)
      | (with_reducible exact impl_NotchesFor.mono _ _)
      | (with_reducible exact impl_ReadAmount.mono _ _)
      | (with_reducible exact spec_A2Notches.mono _ _ _)
      | (with_reducible exact spec_NotchesFor.mono _ _)
      | (with_reducible exact LeO.refl _)
      | (with_reducible exact LeO.none _)
      | (with_reducible refine LeO.ite ?_ ?_)
      | (with_reducible refine LeO.bind ?_ (fun _ => ?_))
      | exact ih0 _ _ _ _
      | exact ih1 _ _ _ _
      | exact impl_AmountText.mono _ _
      | exact impl_CountKind.mono _ _ _ _ _
      | exact impl_NotchesFor.mono _ _
      | exact impl_ReadAmount.mono _ _
      | exact spec_A2Notches.mono _ _ _
      | exact spec_NotchesFor.mono _ _
      | exact LeO.none _
      | refine LeO.ite ?_ ?_
      | refine LeO.bind ?_ (fun _ => ?_)
    · intro y0 y1 y2 y3
      unfold laws_FnAmounts.l0
      repeat' first
      | (with_reducible exact ih0 _ _ _ _)
      | (with_reducible exact ih1 _ _ _ _)
      | (with_reducible exact impl_AmountText.mono _ _)
      | (with_reducible exact impl_CountKind.mono _ _ _ _ _)
      | (with_reducible exact impl_NotchesFor.mono _ _)
      | (with_reducible exact impl_ReadAmount.mono _ _)
      | (with_reducible exact spec_A2Notches.mono _ _ _)
      | (with_reducible exact spec_NotchesFor.mono _ _)
      | (with_reducible exact LeO.refl _)
      | (with_reducible exact LeO.none _)
      | (with_reducible refine LeO.ite ?_ ?_)
      | (with_reducible refine LeO.bind ?_ (fun _ => ?_))
      | exact ih0 _ _ _ _
      | exact ih1 _ _ _ _
      | exact impl_AmountText.mono _ _
      | exact impl_CountKind.mono _ _ _ _ _
      | exact impl_NotchesFor.mono _ _
      | exact impl_ReadAmount.mono _ _
      | exact spec_A2Notches.mono _ _ _
      | exact spec_NotchesFor.mono _ _
      | exact LeO.none _
      | refine LeO.ite ?_ ?_
      | refine LeO.bind ?_ (fun _ => ?_)
theorem laws_FnAmounts.mono : ∀ a0 k, LeO (laws_FnAmounts.f k a0) (laws_FnAmounts.f (k + 1) a0) := by
  intro a0 k
  obtain ⟨ih0, ih1⟩ := laws_FnAmounts.mono_l k
  unfold laws_FnAmounts.f
  repeat' first
      | (with_reducible exact ih0 _ _ _ _)
      | (with_reducible exact ih1 _ _ _ _)
      | (with_reducible exact impl_AmountText.mono _ _)
      | (with_reducible exact impl_CountKind.mono _ _ _ _ _)
      | (with_reducible exact impl_NotchesFor.mono _ _)
      | (with_reducible exact impl_ReadAmount.mono _ _)
      | (with_reducible exact spec_A2Notches.mono _ _ _)
      | (with_reducible exact spec_NotchesFor.mono _ _)
      | (with_reducible exact LeO.refl _)
      | (with_reducible exact LeO.none _)
      | (with_reducible refine LeO.ite ?_ ?_)
      | (with_reducible refine LeO.bind ?_ (fun _ => ?_))
      | exact ih0 _ _ _ _
      | exact ih1 _ _ _ _
      | exact impl_AmountText.mono _ _
      | exact impl_CountKind.mono _ _ _ _ _
      | exact impl_NotchesFor.mono _ _
      | exact impl_ReadAmount.mono _ _
      | exact spec_A2Notches.mono _ _ _
      | exact spec_NotchesFor.mono _ _
      | exact LeO.none _
      | refine LeO.ite ?_ ?_
      | refine LeO.bind ?_ (fun _ => ?_)
set_option maxHeartbeats 8000000 in
set_option maxRecDepth 100000 in
theorem laws_FnAmounts.calls (k : Nat) (A0 : Option Addr) (c0 : Nat) (l0 : List Int) (r : Bool) (w : World) (hr0 : Kd.C (Kd.int .u8) w A0 l0.length l0) (hc0 : l0.length ≤ c0) (hT : Tt.TT w) (h : laws_FnAmounts.f k l0 = some r) (ht : r = true) :
    Calls Tryd.prog 8 #[.slice A0 l0.length c0] w fun e w' => e = .returned (.bool r) ∧ Below w.heap.size w w' := by
  have hu45 := Tryd.underlying45
  have HR0 := Aside0.mk hr0
  have HC0 := Aside0.mk hc0
  clear hr0 hc0
  have HB := Aside0.mk (Below.refl w.heap.size w)
  have H : ((laws_a2Long.f l0 l0).bind fun t228 => (if t228 = true then (some true) else ((spec_A2Amount.f l0).bind fun t229 => ((impl_AmountText.f k t229).bind fun t230 => ((impl_ReadAmount.f k t230).bind fun bt231 => ((impl_NotchesFor.f k t229).bind fun bt233 => ((spec_NotchesFor.f k t229).bind fun bt237 => (if bt231.2 = 0 then (if bt231.1 = t229 then (if bt233.2 = bt237.2 then ((spec_A2Notches.f k bt233.1 bt237.1).bind fun t241 => (laws_FnAmounts.j0 k t229 bt233.2 bt237.1 (!t241))) else (laws_FnAmounts.j0 k t229 bt233.2 bt237.1 true)) else (laws_FnAmounts.j0 k t229 bt233.2 bt237.1 true)) else (laws_FnAmounts.j0 k t229 bt233.2 bt237.1 true))))))))) = some r := h
  clear h
  replace H := Option.bind_eq_some_iff.mp H
  obtain ⟨t228, A20, H⟩ := H
  replace H : (if t228 = true then (some true) else ((spec_A2Amount.f l0).bind fun t229 => ((impl_AmountText.f k t229).bind fun t230 => ((impl_ReadAmount.f k t230).bind fun bt231 => ((impl_NotchesFor.f k t229).bind fun bt233 => ((spec_NotchesFor.f k t229).bind fun bt237 => (if bt231.2 = 0 then (if bt231.1 = t229 then (if bt233.2 = bt237.2 then ((spec_A2Notches.f k bt233.1 bt237.1).bind fun t241 => (laws_FnAmounts.j0 k t229 bt233.2 bt237.1 (!t241))) else (laws_FnAmounts.j0 k t229 bt233.2 bt237.1 true)) else (laws_FnAmounts.j0 k t229 bt233.2 bt237.1 true)) else (laws_FnAmounts.j0 k t229 bt233.2 bt237.1 true)))))))) = some r := H
  have A2 := Aside0.mk A20
  clear A20
  by_cases c3 : t228 = true
  · subst c3
    have H1 : (some true) = some r := by rw [if_pos rfl] at H; exact H
    clear H
    have H := H1
    clear H1
    obtain rfl := Option.some.inj H
    go_enter Tryd.func8, Tryd.ntmps8
    go_wp2_with (first | (go_at_call 30; (with_reducible refine (laws_a2Long.calls _ _ l0 _ _ l0 true _ ?side1 ?side2 ?side3 ?side4 A2.out).mono ?_); (case side1 => repeat (first | exact HR0.out | (with_reducible refine Kd.C_alloc ?_ _) | (with_reducible refine Kd.C_drewN ?_ _) | (with_reducible refine Kd.C_drew ?_))); (case side2 => exact HC0.out); (case side3 => repeat (first | exact HR0.out | (with_reducible refine Kd.C_alloc ?_ _) | (with_reducible refine Kd.C_drewN ?_ _) | (with_reducible refine Kd.C_drew ?_))); (case side4 => exact HC0.out); rintro e w' ⟨rfl, ⟨nd, rfl⟩⟩; (try first | exact ⟨rfl, _, World.drewN_drewN _ _ _⟩ | exact ⟨rfl, _, Eq.trans (World.drewN_drewN _ _ _) (congrArg (World.drewN _) (Nat.add_assoc _ _ _))⟩)))
    repeat (go_quiet (first | (go_at_call 30; (with_reducible refine (laws_a2Long.calls _ _ l0 _ _ l0 true _ ?side1 ?side2 ?side3 ?side4 A2.out).mono ?_); (case side1 => repeat (first | exact HR0.out | (with_reducible refine Kd.C_alloc ?_ _) | (with_reducible refine Kd.C_drewN ?_ _) | (with_reducible refine Kd.C_drew ?_))); (case side2 => exact HC0.out); (case side3 => repeat (first | exact HR0.out | (with_reducible refine Kd.C_alloc ?_ _) | (with_reducible refine Kd.C_drewN ?_ _) | (with_reducible refine Kd.C_drew ?_))); (case side4 => exact HC0.out); rintro e w' ⟨rfl, ⟨nd, rfl⟩⟩; (try first | exact ⟨rfl, _, World.drewN_drewN _ _ _⟩ | exact ⟨rfl, _, Eq.trans (World.drewN_drewN _ _ _) (congrArg (World.drewN _) (Nat.add_assoc _ _ _))⟩))); try go_wp2_with (first | (go_at_call 30; (with_reducible refine (laws_a2Long.calls _ _ l0 _ _ l0 true _ ?side1 ?side2 ?side3 ?side4 A2.out).mono ?_); (case side1 => repeat (first | exact HR0.out | (with_reducible refine Kd.C_alloc ?_ _) | (with_reducible refine Kd.C_drewN ?_ _) | (with_reducible refine Kd.C_drew ?_))); (case side2 => exact HC0.out); (case side3 => repeat (first | exact HR0.out | (with_reducible refine Kd.C_alloc ?_ _) | (with_reducible refine Kd.C_drewN ?_ _) | (with_reducible refine Kd.C_drew ?_))); (case side4 => exact HC0.out); rintro e w' ⟨rfl, ⟨nd, rfl⟩⟩; (try first | exact ⟨rfl, _, World.drewN_drewN _ _ _⟩ | exact ⟨rfl, _, Eq.trans (World.drewN_drewN _ _ _) (congrArg (World.drewN _) (Nat.add_assoc _ _ _))⟩))))
    go_ret
    exact ⟨by first | rfl | (simp [errW_none, errW_some] <;> rfl) | (simp [*, errW_none, errW_some] <;> rfl), by repeat (first | (with_reducible first | exact HB.out | apply below_alloc | apply pw_below_drewN | apply below_drew1) | exact HB.out)⟩
  · replace c3 := Bool.eq_false_iff.mpr c3
    subst c3
    have H1 : ((spec_A2Amount.f l0).bind fun t229 => ((impl_AmountText.f k t229).bind fun t230 => ((impl_ReadAmount.f k t230).bind fun bt231 => ((impl_NotchesFor.f k t229).bind fun bt233 => ((spec_NotchesFor.f k t229).bind fun bt237 => (if bt231.2 = 0 then (if bt231.1 = t229 then (if bt233.2 = bt237.2 then ((spec_A2Notches.f k bt233.1 bt237.1).bind fun t241 => (laws_FnAmounts.j0 k t229 bt233.2 bt237.1 (!t241))) else (laws_FnAmounts.j0 k t229 bt233.2 bt237.1 true)) else (laws_FnAmounts.j0 k t229 bt233.2 bt237.1 true)) else (laws_FnAmounts.j0 k t229 bt233.2 bt237.1 true))))))) = some r := by rw [if_neg (show ¬ (false = true) by decide)] at H; exact H
    clear H
    have H := H1
    clear H1
    replace H := Option.bind_eq_some_iff.mp H
    obtain ⟨t229, A40, H⟩ := H
    replace H : ((impl_AmountText.f k t229).bind fun t230 => ((impl_ReadAmount.f k t230).bind fun bt231 => ((impl_NotchesFor.f k t229).bind fun bt233 => ((spec_NotchesFor.f k t229).bind fun bt237 => (if bt231.2 = 0 then (if bt231.1 = t229 then (if bt233.2 = bt237.2 then ((spec_A2Notches.f k bt233.1 bt237.1).bind fun t241 => (laws_FnAmounts.j0 k t229 bt233.2 bt237.1 (!t241))) else (laws_FnAmounts.j0 k t229 bt233.2 bt237.1 true)) else (laws_FnAmounts.j0 k t229 bt233.2 bt237.1 true)) else (laws_FnAmounts.j0 k t229 bt233.2 bt237.1 true)))))) = some r := H
    have A4 := Aside0.mk A40
    clear A40
    replace H := Option.bind_eq_some_iff.mp H
    obtain ⟨t230, A50, H⟩ := H
    replace H : ((impl_ReadAmount.f k t230).bind fun bt231 => ((impl_NotchesFor.f k t229).bind fun bt233 => ((spec_NotchesFor.f k t229).bind fun bt237 => (if bt231.2 = 0 then (if bt231.1 = t229 then (if bt233.2 = bt237.2 then ((spec_A2Notches.f k bt233.1 bt237.1).bind fun t241 => (laws_FnAmounts.j0 k t229 bt233.2 bt237.1 (!t241))) else (laws_FnAmounts.j0 k t229 bt233.2 bt237.1 true)) else (laws_FnAmounts.j0 k t229 bt233.2 bt237.1 true)) else (laws_FnAmounts.j0 k t229 bt233.2 bt237.1 true))))) = some r := H
    have A5 := Aside0.mk A50
    clear A50
    replace H := Option.bind_eq_some_iff.mp H
    obtain ⟨⟨t231, t232⟩, A60, H⟩ := H
    replace H : ((impl_NotchesFor.f k t229).bind fun bt233 => ((spec_NotchesFor.f k t229).bind fun bt237 => (if t232 = 0 then (if t231 = t229 then (if bt233.2 = bt237.2 then ((spec_A2Notches.f k bt233.1 bt237.1).bind fun t241 => (laws_FnAmounts.j0 k t229 bt233.2 bt237.1 (!t241))) else (laws_FnAmounts.j0 k t229 bt233.2 bt237.1 true)) else (laws_FnAmounts.j0 k t229 bt233.2 bt237.1 true)) else (laws_FnAmounts.j0 k t229 bt233.2 bt237.1 true)))) = some r := H
    have A6 := Aside0.mk A60
    clear A60
    replace H := Option.bind_eq_some_iff.mp H
    obtain ⟨⟨t233, t234⟩, A70, H⟩ := H
    replace H : ((spec_NotchesFor.f k t229).bind fun bt237 => (if t232 = 0 then (if t231 = t229 then (if t234 = bt237.2 then ((spec_A2Notches.f k t233 bt237.1).bind fun t241 => (laws_FnAmounts.j0 k t229 t234 bt237.1 (!t241))) else (laws_FnAmounts.j0 k t229 t234 bt237.1 true)) else (laws_FnAmounts.j0 k t229 t234 bt237.1 true)) else (laws_FnAmounts.j0 k t229 t234 bt237.1 true))) = some r := H
    have A7 := Aside0.mk A70
    clear A70
    replace H := Option.bind_eq_some_iff.mp H
    obtain ⟨⟨t237, t238⟩, A80, H⟩ := H
    replace H : (if t232 = 0 then (if t231 = t229 then (if t234 = t238 then ((spec_A2Notches.f k t233 t237).bind fun t241 => (laws_FnAmounts.j0 k t229 t234 t237 (!t241))) else (laws_FnAmounts.j0 k t229 t234 t237 true)) else (laws_FnAmounts.j0 k t229 t234 t237 true)) else (laws_FnAmounts.j0 k t229 t234 t237 true)) = some r := H
    have A8 := Aside0.mk A80
    clear A80
    have HC9 := Aside0.mk H
    clear H
    go_enter Tryd.func8, Tryd.ntmps8
    go_upto_region 7 with (first | (go_at_call 30; (with_reducible refine (laws_a2Long.calls _ _ l0 _ _ l0 false _ ?side1 ?side2 ?side3 ?side4 A2.out).mono ?_); (case side1 => repeat (first | exact HR0.out | (with_reducible refine Kd.C_alloc ?_ _) | (with_reducible refine Kd.C_drewN ?_ _) | (with_reducible refine Kd.C_drew ?_))); (case side2 => exact HC0.out); (case side3 => repeat (first | exact HR0.out | (with_reducible refine Kd.C_alloc ?_ _) | (with_reducible refine Kd.C_drewN ?_ _) | (with_reducible refine Kd.C_drew ?_))); (case side4 => exact HC0.out); rintro e w' ⟨rfl, ⟨nd, rfl⟩⟩; (try first | exact ⟨rfl, _, World.drewN_drewN _ _ _⟩ | exact ⟨rfl, _, Eq.trans (World.drewN_drewN _ _ _) (congrArg (World.drewN _) (Nat.add_assoc _ _ _))⟩)) | (go_at_call 31; (with_reducible refine (spec_A2Amount.calls _ _ l0 t229 _ ?side1 ?side2 A4.out).mono ?_); (case side1 => repeat (first | exact HR0.out | (with_reducible refine Kd.C_alloc ?_ _) | (with_reducible refine Kd.C_drewN ?_ _) | (with_reducible refine Kd.C_drew ?_))); (case side2 => exact HC0.out); rintro e w10 ⟨rfl, hb⟩; have n0_ := Aside0.mk (below_step (by repeat (first | (with_reducible first | exact HB.out | apply below_alloc | apply pw_below_drewN | apply below_drew1) | exact HB.out)) hb); clear HB; have HB := n0_; clear n0_; (try clear hb); (try clear hb2); (try clear hk); (try clear hi)) | (go_at_call 32; (with_reducible refine (impl_AmountText.calls k t229 t230 _ ?side1 A5.out).mono ?_); (case side1 => first | exact hT | exact Tt.TT_on hT (by repeat (first | (with_reducible first | exact HB.out | apply below_alloc | apply pw_below_drewN | apply below_drew1) | exact HB.out))); rintro e w11 ⟨rfl, hb⟩; have n0_ := Aside0.mk (below_step (by repeat (first | (with_reducible first | exact HB.out | apply below_alloc | apply pw_below_drewN | apply below_drew1) | exact HB.out)) hb); clear HB; have HB := n0_; clear n0_; (try clear hb); (try clear hb2); (try clear hk); (try clear hi)) | (go_at_call 11; (with_reducible refine (impl_ReadAmount.calls k t230 t231 t232 _ ?side1 A6.out).mono ?_); (case side1 => first | exact hT | exact Tt.TT_on hT (by repeat (first | (with_reducible first | exact HB.out | apply below_alloc | apply pw_below_drewN | apply below_drew1) | exact HB.out))); rintro e w12 ⟨rfl, hb⟩; have n0_ := Aside0.mk (below_step (by repeat (first | (with_reducible first | exact HB.out | apply below_alloc | apply pw_below_drewN | apply below_drew1) | exact HB.out)) hb); clear HB; have HB := n0_; clear n0_; (try clear hb); (try clear hb2); (try clear hk); (try clear hi)) | (go_at_call 33; (with_reducible refine (impl_NotchesFor.calls k t229 t233 t234 _ A7.out).mono ?_); rintro e w13 ⟨v235, rfl, ho0, hb⟩; have n0_ := Aside0.mk (Kd.R_lower ho0 (below_size (by repeat (first | (with_reducible first | exact HB.out | apply below_alloc | apply pw_below_drewN | apply below_drew1) | exact HB.out)))); have n1_ := Aside0.mk (below_step (by repeat (first | (with_reducible first | exact HB.out | apply below_alloc | apply pw_below_drewN | apply below_drew1) | exact HB.out)) hb); clear HB; have HO236 := n0_; have HB := n1_; clear n0_ n1_; (try clear hb); (try clear hb2); (try clear hk); (try clear hi); (try clear ho0)) | (go_at_call 34; (with_reducible refine (spec_NotchesFor.calls k t229 t237 t238 _ A8.out).mono ?_); rintro e w14 ⟨v239, rfl, ho0, hb⟩; have n0_ := Aside0.mk (Kd.R_elder' (by (with_reducible repeat (first | apply Kd.R_alloc | apply Kd.R_drewN | apply Kd.R_drew)); exact HO236.out) (Kd.R_base ho0) hb); have n1_ := Aside0.mk (Kd.R_lower (Kd.R_new' ho0 (Kd.R_lt (by (with_reducible repeat (first | apply Kd.R_alloc | apply Kd.R_drewN | apply Kd.R_drew)); exact HO236.out))) (below_size (by repeat (first | (with_reducible first | exact HB.out | apply below_alloc | apply pw_below_drewN | apply below_drew1) | exact HB.out)))); have n2_ := Aside0.mk (below_step (by repeat (first | (with_reducible first | exact HB.out | apply below_alloc | apply pw_below_drewN | apply below_drew1) | exact HB.out)) hb); clear HO236; clear HB; have HO236 := n0_; have HO240 := n1_; have HB := n2_; clear n0_ n1_ n2_; (try clear hb); (try clear hb2); (try clear hk); (try clear hi); (try clear ho0)))
    repeat (go_quiet (first | (go_at_call 30; (with_reducible refine (laws_a2Long.calls _ _ l0 _ _ l0 false _ ?side1 ?side2 ?side3 ?side4 A2.out).mono ?_); (case side1 => repeat (first | exact HR0.out | (with_reducible refine Kd.C_alloc ?_ _) | (with_reducible refine Kd.C_drewN ?_ _) | (with_reducible refine Kd.C_drew ?_))); (case side2 => exact HC0.out); (case side3 => repeat (first | exact HR0.out | (with_reducible refine Kd.C_alloc ?_ _) | (with_reducible refine Kd.C_drewN ?_ _) | (with_reducible refine Kd.C_drew ?_))); (case side4 => exact HC0.out); rintro e w' ⟨rfl, ⟨nd, rfl⟩⟩; (try first | exact ⟨rfl, _, World.drewN_drewN _ _ _⟩ | exact ⟨rfl, _, Eq.trans (World.drewN_drewN _ _ _) (congrArg (World.drewN _) (Nat.add_assoc _ _ _))⟩)) | (go_at_call 31; (with_reducible refine (spec_A2Amount.calls _ _ l0 t229 _ ?side1 ?side2 A4.out).mono ?_); (case side1 => repeat (first | exact HR0.out | (with_reducible refine Kd.C_alloc ?_ _) | (with_reducible refine Kd.C_drewN ?_ _) | (with_reducible refine Kd.C_drew ?_))); (case side2 => exact HC0.out); rintro e w10 ⟨rfl, hb⟩; have n0_ := Aside0.mk (below_step (by repeat (first | (with_reducible first | exact HB.out | apply below_alloc | apply pw_below_drewN | apply below_drew1) | exact HB.out)) hb); clear HB; have HB := n0_; clear n0_; (try clear hb); (try clear hb2); (try clear hk); (try clear hi)) | (go_at_call 32; (with_reducible refine (impl_AmountText.calls k t229 t230 _ ?side1 A5.out).mono ?_); (case side1 => first | exact hT | exact Tt.TT_on hT (by repeat (first | (with_reducible first | exact HB.out | apply below_alloc | apply pw_below_drewN | apply below_drew1) | exact HB.out))); rintro e w11 ⟨rfl, hb⟩; have n0_ := Aside0.mk (below_step (by repeat (first | (with_reducible first | exact HB.out | apply below_alloc | apply pw_below_drewN | apply below_drew1) | exact HB.out)) hb); clear HB; have HB := n0_; clear n0_; (try clear hb); (try clear hb2); (try clear hk); (try clear hi)) | (go_at_call 11; (with_reducible refine (impl_ReadAmount.calls k t230 t231 t232 _ ?side1 A6.out).mono ?_); (case side1 => first | exact hT | exact Tt.TT_on hT (by repeat (first | (with_reducible first | exact HB.out | apply below_alloc | apply pw_below_drewN | apply below_drew1) | exact HB.out))); rintro e w12 ⟨rfl, hb⟩; have n0_ := Aside0.mk (below_step (by repeat (first | (with_reducible first | exact HB.out | apply below_alloc | apply pw_below_drewN | apply below_drew1) | exact HB.out)) hb); clear HB; have HB := n0_; clear n0_; (try clear hb); (try clear hb2); (try clear hk); (try clear hi)) | (go_at_call 33; (with_reducible refine (impl_NotchesFor.calls k t229 t233 t234 _ A7.out).mono ?_); rintro e w13 ⟨v235, rfl, ho0, hb⟩; have n0_ := Aside0.mk (Kd.R_lower ho0 (below_size (by repeat (first | (with_reducible first | exact HB.out | apply below_alloc | apply pw_below_drewN | apply below_drew1) | exact HB.out)))); have n1_ := Aside0.mk (below_step (by repeat (first | (with_reducible first | exact HB.out | apply below_alloc | apply pw_below_drewN | apply below_drew1) | exact HB.out)) hb); clear HB; have HO236 := n0_; have HB := n1_; clear n0_ n1_; (try clear hb); (try clear hb2); (try clear hk); (try clear hi); (try clear ho0)) | (go_at_call 34; (with_reducible refine (spec_NotchesFor.calls k t229 t237 t238 _ A8.out).mono ?_); rintro e w14 ⟨v239, rfl, ho0, hb⟩; have n0_ := Aside0.mk (Kd.R_elder' (by (with_reducible repeat (first | apply Kd.R_alloc | apply Kd.R_drewN | apply Kd.R_drew)); exact HO236.out) (Kd.R_base ho0) hb); have n1_ := Aside0.mk (Kd.R_lower (Kd.R_new' ho0 (Kd.R_lt (by (with_reducible repeat (first | apply Kd.R_alloc | apply Kd.R_drewN | apply Kd.R_drew)); exact HO236.out))) (below_size (by repeat (first | (with_reducible first | exact HB.out | apply below_alloc | apply pw_below_drewN | apply below_drew1) | exact HB.out)))); have n2_ := Aside0.mk (below_step (by repeat (first | (with_reducible first | exact HB.out | apply below_alloc | apply pw_below_drewN | apply below_drew1) | exact HB.out)) hb); clear HO236; clear HB; have HO236 := n0_; have HO240 := n1_; have HB := n2_; clear n0_ n1_ n2_; (try clear hb); (try clear hb2); (try clear hk); (try clear hi); (try clear ho0))); go_upto_region 7 with (first | (go_at_call 30; (with_reducible refine (laws_a2Long.calls _ _ l0 _ _ l0 false _ ?side1 ?side2 ?side3 ?side4 A2.out).mono ?_); (case side1 => repeat (first | exact HR0.out | (with_reducible refine Kd.C_alloc ?_ _) | (with_reducible refine Kd.C_drewN ?_ _) | (with_reducible refine Kd.C_drew ?_))); (case side2 => exact HC0.out); (case side3 => repeat (first | exact HR0.out | (with_reducible refine Kd.C_alloc ?_ _) | (with_reducible refine Kd.C_drewN ?_ _) | (with_reducible refine Kd.C_drew ?_))); (case side4 => exact HC0.out); rintro e w' ⟨rfl, ⟨nd, rfl⟩⟩; (try first | exact ⟨rfl, _, World.drewN_drewN _ _ _⟩ | exact ⟨rfl, _, Eq.trans (World.drewN_drewN _ _ _) (congrArg (World.drewN _) (Nat.add_assoc _ _ _))⟩)) | (go_at_call 31; (with_reducible refine (spec_A2Amount.calls _ _ l0 t229 _ ?side1 ?side2 A4.out).mono ?_); (case side1 => repeat (first | exact HR0.out | (with_reducible refine Kd.C_alloc ?_ _) | (with_reducible refine Kd.C_drewN ?_ _) | (with_reducible refine Kd.C_drew ?_))); (case side2 => exact HC0.out); rintro e w10 ⟨rfl, hb⟩; have n0_ := Aside0.mk (below_step (by repeat (first | (with_reducible first | exact HB.out | apply below_alloc | apply pw_below_drewN | apply below_drew1) | exact HB.out)) hb); clear HB; have HB := n0_; clear n0_; (try clear hb); (try clear hb2); (try clear hk); (try clear hi)) | (go_at_call 32; (with_reducible refine (impl_AmountText.calls k t229 t230 _ ?side1 A5.out).mono ?_); (case side1 => first | exact hT | exact Tt.TT_on hT (by repeat (first | (with_reducible first | exact HB.out | apply below_alloc | apply pw_below_drewN | apply below_drew1) | exact HB.out))); rintro e w11 ⟨rfl, hb⟩; have n0_ := Aside0.mk (below_step (by repeat (first | (with_reducible first | exact HB.out | apply below_alloc | apply pw_below_drewN | apply below_drew1) | exact HB.out)) hb); clear HB; have HB := n0_; clear n0_; (try clear hb); (try clear hb2); (try clear hk); (try clear hi)) | (go_at_call 11; (with_reducible refine (impl_ReadAmount.calls k t230 t231 t232 _ ?side1 A6.out).mono ?_); (case side1 => first | exact hT | exact Tt.TT_on hT (by repeat (first | (with_reducible first | exact HB.out | apply below_alloc | apply pw_below_drewN | apply below_drew1) | exact HB.out))); rintro e w12 ⟨rfl, hb⟩; have n0_ := Aside0.mk (below_step (by repeat (first | (with_reducible first | exact HB.out | apply below_alloc | apply pw_below_drewN | apply below_drew1) | exact HB.out)) hb); clear HB; have HB := n0_; clear n0_; (try clear hb); (try clear hb2); (try clear hk); (try clear hi)) | (go_at_call 33; (with_reducible refine (impl_NotchesFor.calls k t229 t233 t234 _ A7.out).mono ?_); rintro e w13 ⟨v235, rfl, ho0, hb⟩; have n0_ := Aside0.mk (Kd.R_lower ho0 (below_size (by repeat (first | (with_reducible first | exact HB.out | apply below_alloc | apply pw_below_drewN | apply below_drew1) | exact HB.out)))); have n1_ := Aside0.mk (below_step (by repeat (first | (with_reducible first | exact HB.out | apply below_alloc | apply pw_below_drewN | apply below_drew1) | exact HB.out)) hb); clear HB; have HO236 := n0_; have HB := n1_; clear n0_ n1_; (try clear hb); (try clear hb2); (try clear hk); (try clear hi); (try clear ho0)) | (go_at_call 34; (with_reducible refine (spec_NotchesFor.calls k t229 t237 t238 _ A8.out).mono ?_); rintro e w14 ⟨v239, rfl, ho0, hb⟩; have n0_ := Aside0.mk (Kd.R_elder' (by (with_reducible repeat (first | apply Kd.R_alloc | apply Kd.R_drewN | apply Kd.R_drew)); exact HO236.out) (Kd.R_base ho0) hb); have n1_ := Aside0.mk (Kd.R_lower (Kd.R_new' ho0 (Kd.R_lt (by (with_reducible repeat (first | apply Kd.R_alloc | apply Kd.R_drewN | apply Kd.R_drew)); exact HO236.out))) (below_size (by repeat (first | (with_reducible first | exact HB.out | apply below_alloc | apply pw_below_drewN | apply below_drew1) | exact HB.out)))); have n2_ := Aside0.mk (below_step (by repeat (first | (with_reducible first | exact HB.out | apply below_alloc | apply pw_below_drewN | apply below_drew1) | exact HB.out)) hb); clear HO236; clear HB; have HO236 := n0_; have HO240 := n1_; have HB := n2_; clear n0_ n1_ n2_; (try clear hb); (try clear hb2); (try clear hk); (try clear hi); (try clear ho0))))
    (try simp only [Act.put, List.setIfInBounds_toArray, List.set_cons_zero, List.set_cons_succ])
    go_cut [61] (fun v61 wc => ∃ (kq : Nat) (x61_8 : Bool), v61 = .bool x61_8 ∧ Aside0 (laws_FnAmounts.j0 kq t229 t234 t237 x61_8 = some r) ∧ Aside0 (kq ≤ k) ∧ Aside0 (Kd.R k62 62 wc w.heap.size (fun _ => True) v239 t237) ∧ Aside0 (Below w.heap.size w wc))
    case first =>
      have H := HC9.out
      clear HC9
      by_cases c15 : t232 = 0
      · rw [if_pos c15] at H
        have c15b0 : (t232 == 0) = true := beq_iff_eq.mpr c15
        have c15b1 : (t232 != 0) = false := bne_eq_false_iff_eq.mpr c15
        clear c15
        (first | rw [c15b0] | (simp only [i64_w, i32_w]; rw [c15b0]) | skip)
        by_cases c16 : t231 = t229
        · rw [if_pos c16] at H
          have c16b0 : (t231 == t229) = true := beq_iff_eq.mpr c16
          have c16b1 : (t231 != t229) = false := bne_eq_false_iff_eq.mpr c16
          clear c16
          by_cases c17 : t234 = t238
          · rw [if_pos c17] at H
            have c17b0 : (t234 == t238) = true := beq_iff_eq.mpr c17
            have c17b1 : (t234 != t238) = false := bne_eq_false_iff_eq.mpr c17
            clear c17
            replace H := Option.bind_eq_some_iff.mp H
            obtain ⟨t241, A180, H⟩ := H
            replace H : (laws_FnAmounts.j0 k t229 t234 t237 (!t241)) = some r := H
            have A18 := Aside0.mk A180
            clear A180
            have H' := Aside0.mk H
            clear H
            obtain ⟨Ao19, co19, eo19⟩ := Kd.R_slice HO236.out
            subst eo19
            obtain ⟨Ao20, co20, eo20⟩ := Kd.R_slice HO240.out
            subst eo20
            go_wp2_with (first | (go_at_call 35; (with_reducible refine (spec_A2Notches.calls k _ _ t233 _ _ t237 t241 _ ?side1 ?side2 ?side3 ?side4 A18.out).mono ?_); (case side1 => repeat (first | exact (Kd.R_reads' HO236.out).2.2 | (with_reducible refine Kd.C_alloc ?_ _) | (with_reducible refine Kd.C_drewN ?_ _) | (with_reducible refine Kd.C_drew ?_))); (case side2 => exact (Kd.R_reads' HO236.out).2.1); (case side3 => repeat (first | exact (Kd.R_reads' HO240.out).2.2 | (with_reducible refine Kd.C_alloc ?_ _) | (with_reducible refine Kd.C_drewN ?_ _) | (with_reducible refine Kd.C_drew ?_))); (case side4 => exact (Kd.R_reads' HO240.out).2.1); rintro e w' ⟨rfl, ⟨nd, rfl⟩⟩; (try first | exact ⟨rfl, _, World.drewN_drewN _ _ _⟩ | exact ⟨rfl, _, Eq.trans (World.drewN_drewN _ _ _) (congrArg (World.drewN _) (Nat.add_assoc _ _ _))⟩)))
            repeat (go_quiet (first | (go_at_call 35; (with_reducible refine (spec_A2Notches.calls k _ _ t233 _ _ t237 t241 _ ?side1 ?side2 ?side3 ?side4 A18.out).mono ?_); (case side1 => repeat (first | exact (Kd.R_reads' HO236.out).2.2 | (with_reducible refine Kd.C_alloc ?_ _) | (with_reducible refine Kd.C_drewN ?_ _) | (with_reducible refine Kd.C_drew ?_))); (case side2 => exact (Kd.R_reads' HO236.out).2.1); (case side3 => repeat (first | exact (Kd.R_reads' HO240.out).2.2 | (with_reducible refine Kd.C_alloc ?_ _) | (with_reducible refine Kd.C_drewN ?_ _) | (with_reducible refine Kd.C_drew ?_))); (case side4 => exact (Kd.R_reads' HO240.out).2.1); rintro e w' ⟨rfl, ⟨nd, rfl⟩⟩; (try first | exact ⟨rfl, _, World.drewN_drewN _ _ _⟩ | exact ⟨rfl, _, Eq.trans (World.drewN_drewN _ _ _) (congrArg (World.drewN _) (Nat.add_assoc _ _ _))⟩))); try go_wp2_with (first | (go_at_call 35; (with_reducible refine (spec_A2Notches.calls k _ _ t233 _ _ t237 t241 _ ?side1 ?side2 ?side3 ?side4 A18.out).mono ?_); (case side1 => repeat (first | exact (Kd.R_reads' HO236.out).2.2 | (with_reducible refine Kd.C_alloc ?_ _) | (with_reducible refine Kd.C_drewN ?_ _) | (with_reducible refine Kd.C_drew ?_))); (case side2 => exact (Kd.R_reads' HO236.out).2.1); (case side3 => repeat (first | exact (Kd.R_reads' HO240.out).2.2 | (with_reducible refine Kd.C_alloc ?_ _) | (with_reducible refine Kd.C_drewN ?_ _) | (with_reducible refine Kd.C_drew ?_))); (case side4 => exact (Kd.R_reads' HO240.out).2.1); rintro e w' ⟨rfl, ⟨nd, rfl⟩⟩; (try first | exact ⟨rfl, _, World.drewN_drewN _ _ _⟩ | exact ⟨rfl, _, Eq.trans (World.drewN_drewN _ _ _) (congrArg (World.drewN _) (Nat.add_assoc _ _ _))⟩))))
            go_meet
            case rel => exact ⟨_, (!t241), (by first | rfl | (simp; done) | (simp [*]; done)), H', ⟨by first | omega | exact Nat.le_refl _⟩, ⟨by (with_reducible repeat (first | apply Kd.R_alloc | apply Kd.R_drewN | apply Kd.R_drew)); exact Kd.R_mono HO240.out (fun _ hk => trivial)⟩, ⟨by repeat (first | (with_reducible first | exact HB.out | apply below_alloc | apply pw_below_drewN | apply below_drew1) | exact HB.out)⟩⟩
          · rw [if_neg c17] at H
            have c17b0 : (t234 == t238) = false := beq_eq_false_iff_ne.mpr c17
            have c17b1 : (t234 != t238) = true := bne_iff_ne.mpr c17
            have H' := Aside0.mk H
            clear H
            go_wp2
            repeat (go_quiet (fail); try go_wp2)
            go_meet
            case rel => exact ⟨_, (true), (by first | rfl | (simp; done) | (simp [*]; done)), H', ⟨by first | omega | exact Nat.le_refl _⟩, ⟨by (with_reducible repeat (first | apply Kd.R_alloc | apply Kd.R_drewN | apply Kd.R_drew)); exact Kd.R_mono HO240.out (fun _ hk => trivial)⟩, ⟨by repeat (first | (with_reducible first | exact HB.out | apply below_alloc | apply pw_below_drewN | apply below_drew1) | exact HB.out)⟩⟩
        · rw [if_neg c16] at H
          have c16b0 : (t231 == t229) = false := beq_eq_false_iff_ne.mpr c16
          have c16b1 : (t231 != t229) = true := bne_iff_ne.mpr c16
          have H' := Aside0.mk H
          clear H
          go_wp2
          repeat (go_quiet (fail); try go_wp2)
          go_meet
          case rel => exact ⟨_, (true), (by first | rfl | (simp; done) | (simp [*]; done)), H', ⟨by first | omega | exact Nat.le_refl _⟩, ⟨by (with_reducible repeat (first | apply Kd.R_alloc | apply Kd.R_drewN | apply Kd.R_drew)); exact Kd.R_mono HO240.out (fun _ hk => trivial)⟩, ⟨by repeat (first | (with_reducible first | exact HB.out | apply below_alloc | apply pw_below_drewN | apply below_drew1) | exact HB.out)⟩⟩
      · rw [if_neg c15] at H
        have c15b0 : (t232 == 0) = false := beq_eq_false_iff_ne.mpr c15
        have c15b1 : (t232 != 0) = true := bne_iff_ne.mpr c15
        (first | rw [c15b0] | (simp only [i64_w, i32_w]; rw [c15b0]) | skip)
        have H' := Aside0.mk H
        clear H
        go_wp2
        repeat (go_quiet (fail); try go_wp2)
        go_meet
        case rel => exact ⟨_, (true), (by first | rfl | (simp; done) | (simp [*]; done)), H', ⟨by first | omega | exact Nat.le_refl _⟩, ⟨by (with_reducible repeat (first | apply Kd.R_alloc | apply Kd.R_drewN | apply Kd.R_drew)); exact Kd.R_mono HO240.out (fun _ hk => trivial)⟩, ⟨by repeat (first | (with_reducible first | exact HB.out | apply below_alloc | apply pw_below_drewN | apply below_drew1) | exact HB.out)⟩⟩
    case rest =>
      clear HC9
      try clear c1
      try clear p2
      try clear c3
      try clear c8
      try clear c15
      try clear c15b0
      try clear c15b1
      try clear c16
      try clear c16b0
      try clear c16b1
      try clear c17
      try clear c17b0
      try clear c17b1
      obtain ⟨kq, x61_8, rfl, HA, HJ8, HO_8, HB⟩ := hcut
      cases kq with
      | zero => exact absurd HA.out (by simp [laws_FnAmounts.j0])
      | succ kj8 =>
        have H := HA.out
        clear HA
        simp only [laws_FnAmounts.j0] at H
        by_cases c21 : x61_8 = true
        · subst c21
          have H1 : (some false) = some r := by rw [if_pos rfl] at H; exact H
          clear H
          have H := H1
          clear H1
          obtain rfl := Option.some.inj H
          cases ht
        · replace c21 := Bool.eq_false_iff.mpr c21
          subst c21
          have H1 : (if t234 = 0 then (laws_FnAmounts.l0 kj8 t229 t237 0 0) else (some (t234 == 3))) = some r := by rw [if_neg (show ¬ (false = true) by decide)] at H; exact H
          clear H
          have H := H1
          clear H1
          by_cases c22 : t234 = 0
          · rw [if_pos c22] at H
            have c22b0 : (t234 == 0) = true := beq_iff_eq.mpr c22
            have c22b1 : (t234 != 0) = false := bne_eq_false_iff_eq.mpr c22
            clear c22
            have H' := Aside0.mk H
            clear H
            go_wp2
            repeat (go_quiet (fail); try go_wp2)
            go_loopg [10, 11] kj8 (fun kq v10 v11 w' => ∃ (x10_2 : Int) (x11_2 : Int), v10 = .int .i64 x10_2 ∧ v11 = .int .i64 x11_2 ∧ Aside0 (laws_FnAmounts.l0 kq t229 t237 x10_2 x11_2 = some r) ∧ Aside0 (kq ≤ kj8) ∧ Aside0 (Kd.R k62 62 w' w.heap.size (fun _ => True) v239 t237) ∧ Aside0 (Below w.heap.size w w'))
            case atStart => exact ⟨(0), (0), (by first | rfl | (simp; done) | (simp [*]; done)), (by first | rfl | (simp; done) | (simp [*]; done)), H', ⟨Nat.le_refl _⟩, ⟨by (with_reducible repeat (first | apply Kd.R_alloc | apply Kd.R_drewN | apply Kd.R_drew)); exact HO_8.out⟩, ⟨by repeat (first | (with_reducible first | exact HB.out | apply below_alloc | apply pw_below_drewN | apply below_drew1) | exact HB.out)⟩⟩
            case round =>
              clear H'
              try clear c1
              try clear c2
              try clear p2
              try clear c3
              try clear c8
              try clear c15
              try clear c15b0
              try clear c15b1
              try clear c16
              try clear c16b0
              try clear c16b1
              try clear c17
              try clear c17b0
              try clear c17b1
              try clear c21
              try clear c22
              try clear c22b0
              try clear c22b1
              try clear p2
              obtain ⟨x10_2, x11_2, rfl, rfl, HA, HK2, HO_8, HB⟩ := hrel
              cases gk with
              | zero => exact absurd HA.out (by simp [laws_FnAmounts.l0])
              | succ k2 =>
                have H := HA.out
                clear HA
                simp only [laws_FnAmounts.l0] at H
                by_cases c23 : x11_2 < (t237.length : Int)
                · rw [if_pos c23] at H
                  have c23b0 : decide (x11_2 < (t237.length : Int)) = true := decide_eq_true c23
                  clear c23
                  by_cases c24 : 0 ≤ x11_2
                  · rw [if_pos c24] at H
                    have c24b0 : decide (0 ≤ x11_2) = true := decide_eq_true c24
                    clear c24
                    replace H := Option.bind_eq_some_iff.mp H
                    obtain ⟨⟨t250, t251⟩, A250, H⟩ := H
                    replace H : ((impl_WidthOf.f (wrap64 ((rd_T62 t237 x11_2).f0))).bind fun bt253 => (if t251 = 0 then (if bt253.2 = 0 then (if bt253.1 < 1 then (some false) else (if x11_2 > 0 then (if 0 ≤ (wrap64 (x11_2 - 1)) then (if (wrap64 (x11_2 - 1)) < (t237.length : Int) then (if ((rd_T62 t237 x11_2).f0) > ((rd_T62 t237 (wrap64 (x11_2 - 1))).f0) then (some false) else (laws_FnAmounts.l0 k2 t229 t237 (wrap64 (x10_2 + t250)) (wrap64 (x11_2 + 1)))) else (none)) else (none)) else (laws_FnAmounts.l0 k2 t229 t237 (wrap64 (x10_2 + t250)) (wrap64 (x11_2 + 1))))) else (some false)) else (some false))) = some r := H
                    have A25 := Aside0.mk A250
                    clear A250
                    replace H := Option.bind_eq_some_iff.mp H
                    obtain ⟨⟨t253, t254⟩, A260, H⟩ := H
                    replace H : (if t251 = 0 then (if t254 = 0 then (if t253 < 1 then (some false) else (if x11_2 > 0 then (if 0 ≤ (wrap64 (x11_2 - 1)) then (if (wrap64 (x11_2 - 1)) < (t237.length : Int) then (if ((rd_T62 t237 x11_2).f0) > ((rd_T62 t237 (wrap64 (x11_2 - 1))).f0) then (some false) else (laws_FnAmounts.l0 k2 t229 t237 (wrap64 (x10_2 + t250)) (wrap64 (x11_2 + 1)))) else (none)) else (none)) else (laws_FnAmounts.l0 k2 t229 t237 (wrap64 (x10_2 + t250)) (wrap64 (x11_2 + 1))))) else (some false)) else (some false)) = some r := H
                    have A26 := Aside0.mk A260
                    clear A260
                    by_cases c27 : t251 = 0
                    · rw [if_pos c27] at H
                      have c27b0 : (t251 == 0) = true := beq_iff_eq.mpr c27
                      have c27b1 : (t251 != 0) = false := bne_eq_false_iff_eq.mpr c27
                      clear c27
                      by_cases c28 : t254 = 0
                      · rw [if_pos c28] at H
                        have c28b0 : (t254 == 0) = true := beq_iff_eq.mpr c28
                        have c28b1 : (t254 != 0) = false := bne_eq_false_iff_eq.mpr c28
                        clear c28
                        by_cases c29 : t253 < 1
                        · rw [if_pos c29] at H
                          have c29b0 : decide (t253 < 1) = true := decide_eq_true c29
                          clear c29
                          obtain rfl := Option.some.inj H
                          cases ht
                        · rw [if_neg c29] at H
                          have c29b0 : decide (t253 < 1) = false := decide_eq_false c29
                          clear c29
                          by_cases c30 : x11_2 > 0
                          · rw [if_pos c30] at H
                            have c30b0 : decide (0 < x11_2) = true := decide_eq_true c30
                            clear c30
                            obtain ⟨ji31, hji31⟩ : ∃ j_ : Int, (wrap64 (x11_2 - 1)) = j_ := ⟨_, rfl⟩
                            replace H : (if 0 ≤ (ji31) then (if (ji31) < (t237.length : Int) then (if ((rd_T62 t237 x11_2).f0) > ((rd_T62 t237 (ji31)).f0) then (some false) else (laws_FnAmounts.l0 k2 t229 t237 (wrap64 (x10_2 + t250)) (wrap64 (x11_2 + 1)))) else (none)) else (none)) = some r := by first | (rw [hji31] at H; exact H) | (simp only [hji31] at H ⊢; exact H)
                            (try rw [hji31] at A25)
                            (try rw [hji31] at A26)
                            have hji31w : (IntKind.i64.wrap (x11_2 - 1)) = ji31 := (i64_w _).trans hji31
                            by_cases c32 : 0 ≤ (ji31)
                            · rw [if_pos c32] at H
                              have c32b0 : decide (0 ≤ (ji31)) = true := decide_eq_true c32
                              clear c32
                              by_cases c33 : (ji31) < (t237.length : Int)
                              · rw [if_pos c33] at H
                                have c33b0 : decide ((ji31) < (t237.length : Int)) = true := decide_eq_true c33
                                clear c33
                                by_cases c34 : ((rd_T62 t237 x11_2).f0) > ((rd_T62 t237 (ji31)).f0)
                                · rw [if_pos c34] at H
                                  have c34b0 : decide (((rd_T62 t237 (ji31)).f0) < ((rd_T62 t237 x11_2).f0)) = true := decide_eq_true c34
                                  clear c34
                                  obtain rfl := Option.some.inj H
                                  cases ht
                                · rw [if_neg c34] at H
                                  have c34b0 : decide (((rd_T62 t237 (ji31)).f0) < ((rd_T62 t237 x11_2).f0)) = false := decide_eq_false c34
                                  clear c34
                                  have H' := Aside0.mk H
                                  clear H
                                  obtain ⟨Ao35, co35, eo35⟩ := Kd.R_slice HO_8.out
                                  subst eo35
                                  have p249 : 0 ≤ (x11_2 : Int) := of_decide_eq_true (by first | (with_reducible assumption) | assumption)
                                  have q249 : x11_2 < (t237.length : Int) := of_decide_eq_true (by first | (with_reducible assumption) | assumption)
                                  obtain ⟨ad249, e249, hx249_0, hx249_1⟩ := at_T62 (Kd.R_reads' HO_8.out).2.2 x11_2 p249 q249
                                  cases e249
                                  replace p249 := eq_true p249
                                  replace q249 := eq_true q249
                                  go_wp2_with (first | (go_at_call 36; (with_reducible refine (impl_WorthOf.calls (wrap64 ((rd_T62 t237 x11_2).f0)) t250 t251 _ A25.out).mono ?_); rintro e w36 ⟨rfl, hb⟩; have n0_ := Aside0.mk (Kd.R_below (by (with_reducible repeat (first | apply Kd.R_alloc | apply Kd.R_drewN | apply Kd.R_drew)); exact HO_8.out) hb); have n1_ := Aside0.mk (below_step (by repeat (first | (with_reducible first | exact HB.out | apply below_alloc | apply pw_below_drewN | apply below_drew1) | exact HB.out)) hb); clear HO_8; clear HB; have HO_8 := n0_; have HB := n1_; clear n0_ n1_; (try clear hb); (try clear hb2); (try clear hk); (try clear hi); have p252 : 0 ≤ (x11_2 : Int) := of_decide_eq_true (by first | (with_reducible assumption) | assumption); have q252 : x11_2 < (t237.length : Int) := of_decide_eq_true (by first | (with_reducible assumption) | assumption); obtain ⟨ad252, e252, hx252_0, hx252_1⟩ := at_T62 (Kd.R_reads' HO_8.out).2.2 x11_2 p252 q252; obtain rfl : ad249 = ad252 := (by injection e252); replace p252 := eq_true p252; replace q252 := eq_true q252) | (go_at_call 37; (with_reducible refine (impl_WidthOf.calls (wrap64 ((rd_T62 t237 x11_2).f0)) t253 t254 _ A26.out).mono ?_); rintro e w37 ⟨rfl, hb⟩; have n0_ := Aside0.mk (Kd.R_below (by (with_reducible repeat (first | apply Kd.R_alloc | apply Kd.R_drewN | apply Kd.R_drew)); exact HO_8.out) hb); have n1_ := Aside0.mk (below_step (by repeat (first | (with_reducible first | exact HB.out | apply below_alloc | apply pw_below_drewN | apply below_drew1) | exact HB.out)) hb); clear HO_8; clear HB; have HO_8 := n0_; have HB := n1_; clear n0_ n1_; (try clear hb); (try clear hb2); (try clear hk); (try clear hi); have p255 : 0 ≤ (x11_2 : Int) := of_decide_eq_true (by first | (with_reducible assumption) | assumption); have q255 : x11_2 < (t237.length : Int) := of_decide_eq_true (by first | (with_reducible assumption) | assumption); obtain ⟨ad255, e255, hx255_0, hx255_1⟩ := at_T62 (Kd.R_reads' HO_8.out).2.2 x11_2 p255 q255; obtain rfl : ad249 = ad255 := (by injection e255); replace p255 := eq_true p255; replace q255 := eq_true q255; have p256 : 0 ≤ ((ji31) : Int) := of_decide_eq_true (by first | (with_reducible assumption) | assumption); have q256 : (ji31) < (t237.length : Int) := of_decide_eq_true (by first | (with_reducible assumption) | assumption); obtain ⟨ad256, e256, hx256_0, hx256_1⟩ := at_T62 (Kd.R_reads' HO_8.out).2.2 (ji31) p256 q256; obtain rfl : ad249 = ad256 := (by injection e256); replace p256 := eq_true p256; replace q256 := eq_true q256))
                                  repeat (go_quiet (first | (go_at_call 36; (with_reducible refine (impl_WorthOf.calls (wrap64 ((rd_T62 t237 x11_2).f0)) t250 t251 _ A25.out).mono ?_); rintro e w36 ⟨rfl, hb⟩; have n0_ := Aside0.mk (Kd.R_below (by (with_reducible repeat (first | apply Kd.R_alloc | apply Kd.R_drewN | apply Kd.R_drew)); exact HO_8.out) hb); have n1_ := Aside0.mk (below_step (by repeat (first | (with_reducible first | exact HB.out | apply below_alloc | apply pw_below_drewN | apply below_drew1) | exact HB.out)) hb); clear HO_8; clear HB; have HO_8 := n0_; have HB := n1_; clear n0_ n1_; (try clear hb); (try clear hb2); (try clear hk); (try clear hi); have p252 : 0 ≤ (x11_2 : Int) := of_decide_eq_true (by first | (with_reducible assumption) | assumption); have q252 : x11_2 < (t237.length : Int) := of_decide_eq_true (by first | (with_reducible assumption) | assumption); obtain ⟨ad252, e252, hx252_0, hx252_1⟩ := at_T62 (Kd.R_reads' HO_8.out).2.2 x11_2 p252 q252; obtain rfl : ad249 = ad252 := (by injection e252); replace p252 := eq_true p252; replace q252 := eq_true q252) | (go_at_call 37; (with_reducible refine (impl_WidthOf.calls (wrap64 ((rd_T62 t237 x11_2).f0)) t253 t254 _ A26.out).mono ?_); rintro e w37 ⟨rfl, hb⟩; have n0_ := Aside0.mk (Kd.R_below (by (with_reducible repeat (first | apply Kd.R_alloc | apply Kd.R_drewN | apply Kd.R_drew)); exact HO_8.out) hb); have n1_ := Aside0.mk (below_step (by repeat (first | (with_reducible first | exact HB.out | apply below_alloc | apply pw_below_drewN | apply below_drew1) | exact HB.out)) hb); clear HO_8; clear HB; have HO_8 := n0_; have HB := n1_; clear n0_ n1_; (try clear hb); (try clear hb2); (try clear hk); (try clear hi); have p255 : 0 ≤ (x11_2 : Int) := of_decide_eq_true (by first | (with_reducible assumption) | assumption); have q255 : x11_2 < (t237.length : Int) := of_decide_eq_true (by first | (with_reducible assumption) | assumption); obtain ⟨ad255, e255, hx255_0, hx255_1⟩ := at_T62 (Kd.R_reads' HO_8.out).2.2 x11_2 p255 q255; obtain rfl : ad249 = ad255 := (by injection e255); replace p255 := eq_true p255; replace q255 := eq_true q255; have p256 : 0 ≤ ((ji31) : Int) := of_decide_eq_true (by first | (with_reducible assumption) | assumption); have q256 : (ji31) < (t237.length : Int) := of_decide_eq_true (by first | (with_reducible assumption) | assumption); obtain ⟨ad256, e256, hx256_0, hx256_1⟩ := at_T62 (Kd.R_reads' HO_8.out).2.2 (ji31) p256 q256; obtain rfl : ad249 = ad256 := (by injection e256); replace p256 := eq_true p256; replace q256 := eq_true q256)); try go_wp2_with (first | (go_at_call 36; (with_reducible refine (impl_WorthOf.calls (wrap64 ((rd_T62 t237 x11_2).f0)) t250 t251 _ A25.out).mono ?_); rintro e w36 ⟨rfl, hb⟩; have n0_ := Aside0.mk (Kd.R_below (by (with_reducible repeat (first | apply Kd.R_alloc | apply Kd.R_drewN | apply Kd.R_drew)); exact HO_8.out) hb); have n1_ := Aside0.mk (below_step (by repeat (first | (with_reducible first | exact HB.out | apply below_alloc | apply pw_below_drewN | apply below_drew1) | exact HB.out)) hb); clear HO_8; clear HB; have HO_8 := n0_; have HB := n1_; clear n0_ n1_; (try clear hb); (try clear hb2); (try clear hk); (try clear hi); have p252 : 0 ≤ (x11_2 : Int) := of_decide_eq_true (by first | (with_reducible assumption) | assumption); have q252 : x11_2 < (t237.length : Int) := of_decide_eq_true (by first | (with_reducible assumption) | assumption); obtain ⟨ad252, e252, hx252_0, hx252_1⟩ := at_T62 (Kd.R_reads' HO_8.out).2.2 x11_2 p252 q252; obtain rfl : ad249 = ad252 := (by injection e252); replace p252 := eq_true p252; replace q252 := eq_true q252) | (go_at_call 37; (with_reducible refine (impl_WidthOf.calls (wrap64 ((rd_T62 t237 x11_2).f0)) t253 t254 _ A26.out).mono ?_); rintro e w37 ⟨rfl, hb⟩; have n0_ := Aside0.mk (Kd.R_below (by (with_reducible repeat (first | apply Kd.R_alloc | apply Kd.R_drewN | apply Kd.R_drew)); exact HO_8.out) hb); have n1_ := Aside0.mk (below_step (by repeat (first | (with_reducible first | exact HB.out | apply below_alloc | apply pw_below_drewN | apply below_drew1) | exact HB.out)) hb); clear HO_8; clear HB; have HO_8 := n0_; have HB := n1_; clear n0_ n1_; (try clear hb); (try clear hb2); (try clear hk); (try clear hi); have p255 : 0 ≤ (x11_2 : Int) := of_decide_eq_true (by first | (with_reducible assumption) | assumption); have q255 : x11_2 < (t237.length : Int) := of_decide_eq_true (by first | (with_reducible assumption) | assumption); obtain ⟨ad255, e255, hx255_0, hx255_1⟩ := at_T62 (Kd.R_reads' HO_8.out).2.2 x11_2 p255 q255; obtain rfl : ad249 = ad255 := (by injection e255); replace p255 := eq_true p255; replace q255 := eq_true q255; have p256 : 0 ≤ ((ji31) : Int) := of_decide_eq_true (by first | (with_reducible assumption) | assumption); have q256 : (ji31) < (t237.length : Int) := of_decide_eq_true (by first | (with_reducible assumption) | assumption); obtain ⟨ad256, e256, hx256_0, hx256_1⟩ := at_T62 (Kd.R_reads' HO_8.out).2.2 (ji31) p256 q256; obtain rfl : ad249 = ad256 := (by injection e256); replace p256 := eq_true p256; replace q256 := eq_true q256)))
                                  go_roundg k2
                                  case measure => have := HJ8.out; have := HK2.out; omega
                                  case rel => exact ⟨(wrap64 (x10_2 + t250)), (wrap64 (x11_2 + 1)), (by first | rfl | (simp; done) | (simp [*]; done)), (by first | rfl | (simp; done) | (simp [*]; done)), H', ⟨by have := HJ8.out; have := HK2.out; omega⟩, ⟨by (with_reducible repeat (first | apply Kd.R_alloc | apply Kd.R_drewN | apply Kd.R_drew)); exact HO_8.out⟩, ⟨by repeat (first | (with_reducible first | exact HB.out | apply below_alloc | apply pw_below_drewN | apply below_drew1) | exact HB.out)⟩⟩
                              · rw [if_neg c33] at H
                                exact absurd H (by simp)
                            · rw [if_neg c32] at H
                              exact absurd H (by simp)
                          · rw [if_neg c30] at H
                            have c30b0 : decide (0 < x11_2) = false := decide_eq_false c30
                            clear c30
                            have H' := Aside0.mk H
                            clear H
                            obtain ⟨Ao38, co38, eo38⟩ := Kd.R_slice HO_8.out
                            subst eo38
                            have p249 : 0 ≤ (x11_2 : Int) := of_decide_eq_true (by first | (with_reducible assumption) | assumption)
                            have q249 : x11_2 < (t237.length : Int) := of_decide_eq_true (by first | (with_reducible assumption) | assumption)
                            obtain ⟨ad249, e249, hx249_0, hx249_1⟩ := at_T62 (Kd.R_reads' HO_8.out).2.2 x11_2 p249 q249
                            cases e249
                            replace p249 := eq_true p249
                            replace q249 := eq_true q249
                            go_wp2_with (first | (go_at_call 36; (with_reducible refine (impl_WorthOf.calls (wrap64 ((rd_T62 t237 x11_2).f0)) t250 t251 _ A25.out).mono ?_); rintro e w39 ⟨rfl, hb⟩; have n0_ := Aside0.mk (Kd.R_below (by (with_reducible repeat (first | apply Kd.R_alloc | apply Kd.R_drewN | apply Kd.R_drew)); exact HO_8.out) hb); have n1_ := Aside0.mk (below_step (by repeat (first | (with_reducible first | exact HB.out | apply below_alloc | apply pw_below_drewN | apply below_drew1) | exact HB.out)) hb); clear HO_8; clear HB; have HO_8 := n0_; have HB := n1_; clear n0_ n1_; (try clear hb); (try clear hb2); (try clear hk); (try clear hi); have p252 : 0 ≤ (x11_2 : Int) := of_decide_eq_true (by first | (with_reducible assumption) | assumption); have q252 : x11_2 < (t237.length : Int) := of_decide_eq_true (by first | (with_reducible assumption) | assumption); obtain ⟨ad252, e252, hx252_0, hx252_1⟩ := at_T62 (Kd.R_reads' HO_8.out).2.2 x11_2 p252 q252; obtain rfl : ad249 = ad252 := (by injection e252); replace p252 := eq_true p252; replace q252 := eq_true q252) | (go_at_call 37; (with_reducible refine (impl_WidthOf.calls (wrap64 ((rd_T62 t237 x11_2).f0)) t253 t254 _ A26.out).mono ?_); rintro e w40 ⟨rfl, hb⟩; have n0_ := Aside0.mk (Kd.R_below (by (with_reducible repeat (first | apply Kd.R_alloc | apply Kd.R_drewN | apply Kd.R_drew)); exact HO_8.out) hb); have n1_ := Aside0.mk (below_step (by repeat (first | (with_reducible first | exact HB.out | apply below_alloc | apply pw_below_drewN | apply below_drew1) | exact HB.out)) hb); clear HO_8; clear HB; have HO_8 := n0_; have HB := n1_; clear n0_ n1_; (try clear hb); (try clear hb2); (try clear hk); (try clear hi)))
                            repeat (go_quiet (first | (go_at_call 36; (with_reducible refine (impl_WorthOf.calls (wrap64 ((rd_T62 t237 x11_2).f0)) t250 t251 _ A25.out).mono ?_); rintro e w39 ⟨rfl, hb⟩; have n0_ := Aside0.mk (Kd.R_below (by (with_reducible repeat (first | apply Kd.R_alloc | apply Kd.R_drewN | apply Kd.R_drew)); exact HO_8.out) hb); have n1_ := Aside0.mk (below_step (by repeat (first | (with_reducible first | exact HB.out | apply below_alloc | apply pw_below_drewN | apply below_drew1) | exact HB.out)) hb); clear HO_8; clear HB; have HO_8 := n0_; have HB := n1_; clear n0_ n1_; (try clear hb); (try clear hb2); (try clear hk); (try clear hi); have p252 : 0 ≤ (x11_2 : Int) := of_decide_eq_true (by first | (with_reducible assumption) | assumption); have q252 : x11_2 < (t237.length : Int) := of_decide_eq_true (by first | (with_reducible assumption) | assumption); obtain ⟨ad252, e252, hx252_0, hx252_1⟩ := at_T62 (Kd.R_reads' HO_8.out).2.2 x11_2 p252 q252; obtain rfl : ad249 = ad252 := (by injection e252); replace p252 := eq_true p252; replace q252 := eq_true q252) | (go_at_call 37; (with_reducible refine (impl_WidthOf.calls (wrap64 ((rd_T62 t237 x11_2).f0)) t253 t254 _ A26.out).mono ?_); rintro e w40 ⟨rfl, hb⟩; have n0_ := Aside0.mk (Kd.R_below (by (with_reducible repeat (first | apply Kd.R_alloc | apply Kd.R_drewN | apply Kd.R_drew)); exact HO_8.out) hb); have n1_ := Aside0.mk (below_step (by repeat (first | (with_reducible first | exact HB.out | apply below_alloc | apply pw_below_drewN | apply below_drew1) | exact HB.out)) hb); clear HO_8; clear HB; have HO_8 := n0_; have HB := n1_; clear n0_ n1_; (try clear hb); (try clear hb2); (try clear hk); (try clear hi))); try go_wp2_with (first | (go_at_call 36; (with_reducible refine (impl_WorthOf.calls (wrap64 ((rd_T62 t237 x11_2).f0)) t250 t251 _ A25.out).mono ?_); rintro e w39 ⟨rfl, hb⟩; have n0_ := Aside0.mk (Kd.R_below (by (with_reducible repeat (first | apply Kd.R_alloc | apply Kd.R_drewN | apply Kd.R_drew)); exact HO_8.out) hb); have n1_ := Aside0.mk (below_step (by repeat (first | (with_reducible first | exact HB.out | apply below_alloc | apply pw_below_drewN | apply below_drew1) | exact HB.out)) hb); clear HO_8; clear HB; have HO_8 := n0_; have HB := n1_; clear n0_ n1_; (try clear hb); (try clear hb2); (try clear hk); (try clear hi); have p252 : 0 ≤ (x11_2 : Int) := of_decide_eq_true (by first | (with_reducible assumption) | assumption); have q252 : x11_2 < (t237.length : Int) := of_decide_eq_true (by first | (with_reducible assumption) | assumption); obtain ⟨ad252, e252, hx252_0, hx252_1⟩ := at_T62 (Kd.R_reads' HO_8.out).2.2 x11_2 p252 q252; obtain rfl : ad249 = ad252 := (by injection e252); replace p252 := eq_true p252; replace q252 := eq_true q252) | (go_at_call 37; (with_reducible refine (impl_WidthOf.calls (wrap64 ((rd_T62 t237 x11_2).f0)) t253 t254 _ A26.out).mono ?_); rintro e w40 ⟨rfl, hb⟩; have n0_ := Aside0.mk (Kd.R_below (by (with_reducible repeat (first | apply Kd.R_alloc | apply Kd.R_drewN | apply Kd.R_drew)); exact HO_8.out) hb); have n1_ := Aside0.mk (below_step (by repeat (first | (with_reducible first | exact HB.out | apply below_alloc | apply pw_below_drewN | apply below_drew1) | exact HB.out)) hb); clear HO_8; clear HB; have HO_8 := n0_; have HB := n1_; clear n0_ n1_; (try clear hb); (try clear hb2); (try clear hk); (try clear hi))))
                            go_roundg k2
                            case measure => have := HJ8.out; have := HK2.out; omega
                            case rel => exact ⟨(wrap64 (x10_2 + t250)), (wrap64 (x11_2 + 1)), (by first | rfl | (simp; done) | (simp [*]; done)), (by first | rfl | (simp; done) | (simp [*]; done)), H', ⟨by have := HJ8.out; have := HK2.out; omega⟩, ⟨by (with_reducible repeat (first | apply Kd.R_alloc | apply Kd.R_drewN | apply Kd.R_drew)); exact HO_8.out⟩, ⟨by repeat (first | (with_reducible first | exact HB.out | apply below_alloc | apply pw_below_drewN | apply below_drew1) | exact HB.out)⟩⟩
                      · rw [if_neg c28] at H
                        have c28b0 : (t254 == 0) = false := beq_eq_false_iff_ne.mpr c28
                        have c28b1 : (t254 != 0) = true := bne_iff_ne.mpr c28
                        obtain rfl := Option.some.inj H
                        cases ht
                    · rw [if_neg c27] at H
                      have c27b0 : (t251 == 0) = false := beq_eq_false_iff_ne.mpr c27
                      have c27b1 : (t251 != 0) = true := bne_iff_ne.mpr c27
                      obtain rfl := Option.some.inj H
                      cases ht
                  · rw [if_neg c24] at H
                    exact absurd H (by simp)
                · rw [if_neg c23] at H
                  have c23b0 : decide (x11_2 < (t237.length : Int)) = false := decide_eq_false c23
                  clear c23
                  replace H := Option.bind_eq_some_iff.mp H
                  obtain ⟨⟨t243, t244⟩, A430, H⟩ := H
                  replace H : ((impl_CountKind.f k2 false t237 (Vector.replicate 16 0 : Vector Int 16) 1).bind fun bt245 => ((impl_CountKind.f k2 false t237 (Vector.replicate 16 0 : Vector Int 16) 2).bind fun bt247 => (if x10_2 = t229 then (if t244 = 0 then (if t243 < 12 then (if bt245.2 = 0 then (if bt245.1 < 20 then (if bt247.2 = 0 then (some (decide (bt247.1 < 20))) else (some false)) else (some false)) else (some false)) else (some false)) else (some false)) else (some false)))) = some r := H
                  have A43 := Aside0.mk A430
                  clear A430
                  replace H := Option.bind_eq_some_iff.mp H
                  obtain ⟨⟨t245, t246⟩, A450, H⟩ := H
                  replace H : ((impl_CountKind.f k2 false t237 (Vector.replicate 16 0 : Vector Int 16) 2).bind fun bt247 => (if x10_2 = t229 then (if t244 = 0 then (if t243 < 12 then (if t246 = 0 then (if t245 < 20 then (if bt247.2 = 0 then (some (decide (bt247.1 < 20))) else (some false)) else (some false)) else (some false)) else (some false)) else (some false)) else (some false))) = some r := H
                  have A45 := Aside0.mk A450
                  clear A450
                  replace H := Option.bind_eq_some_iff.mp H
                  obtain ⟨⟨t247, t248⟩, A470, H⟩ := H
                  replace H : (if x10_2 = t229 then (if t244 = 0 then (if t243 < 12 then (if t246 = 0 then (if t245 < 20 then (if t248 = 0 then (some (decide (t247 < 20))) else (some false)) else (some false)) else (some false)) else (some false)) else (some false)) else (some false)) = some r := H
                  have A47 := Aside0.mk A470
                  clear A470
                  by_cases c48 : x10_2 = t229
                  · rw [if_pos c48] at H
                    have c48b0 : (x10_2 == t229) = true := beq_iff_eq.mpr c48
                    have c48b1 : (x10_2 != t229) = false := bne_eq_false_iff_eq.mpr c48
                    clear c48
                    by_cases c49 : t244 = 0
                    · rw [if_pos c49] at H
                      have c49b0 : (t244 == 0) = true := beq_iff_eq.mpr c49
                      have c49b1 : (t244 != 0) = false := bne_eq_false_iff_eq.mpr c49
                      clear c49
                      by_cases c50 : t243 < 12
                      · rw [if_pos c50] at H
                        have c50b0 : decide (t243 < 12) = true := decide_eq_true c50
                        clear c50
                        by_cases c51 : t246 = 0
                        · rw [if_pos c51] at H
                          have c51b0 : (t246 == 0) = true := beq_iff_eq.mpr c51
                          have c51b1 : (t246 != 0) = false := bne_eq_false_iff_eq.mpr c51
                          clear c51
                          by_cases c52 : t245 < 20
                          · rw [if_pos c52] at H
                            have c52b0 : decide (t245 < 20) = true := decide_eq_true c52
                            clear c52
                            by_cases c53 : t248 = 0
                            · rw [if_pos c53] at H
                              have c53b0 : (t248 == 0) = true := beq_iff_eq.mpr c53
                              have c53b1 : (t248 != 0) = false := bne_eq_false_iff_eq.mpr c53
                              clear c53
                              obtain rfl := Option.some.inj H
                              obtain ⟨Ao54, co54, eo54⟩ := Kd.R_slice HO_8.out
                              subst eo54
                              go_wp2_with (first | ((with_reducible refine gate_dst (N := 16) rfl ?_); refine box_event ?hg (N := 16) ?hd (cs := (⟨(.bool false) :: (.slice none 0 0) :: Arr.arL .i8 (Vector.replicate 16 0 : Vector Int 16)⟩ : Array Value)) (t := 45) ?hr ?_; (case hd => rfl); (case hg => rfl); (case hr => first | (go_simp; done) | (go_simp; rfl)); intro gb242 hg w55 hbox hb; have n0_ := Aside0.mk (Kd.R_below (by (with_reducible repeat (first | apply Kd.R_alloc | apply Kd.R_drewN | apply Kd.R_drew)); exact HO_8.out) hb); have n1_ := Aside0.mk (below_step (by repeat (first | (with_reducible first | exact HB.out | apply below_alloc | apply pw_below_drewN | apply below_drew1) | exact HB.out)) hb); have n2_ := Aside0.mk (hbox); have n3_ := Aside0.mk ((by rw [hg]; exact (below_size (by repeat (first | (with_reducible first | exact HB.out | apply below_alloc | apply pw_below_drewN | apply below_drew1) | exact HB.out))) : w.heap.size ≤ gb242)); have n4_ := Aside0.mk ((by rw [hg]; exact (below_size (by repeat (first | (with_reducible first | exact HB.out | apply below_alloc | apply pw_below_drewN | apply below_drew1) | exact HB.out))) : w.heap.size ≤ gb242)); clear HO_8; clear HB; have HO_8 := n0_; have HB := n1_; have BK242 := n2_; have GW242 := n3_; have GE242 := n4_; clear n0_ n1_ n2_ n3_ n4_; clear hb hbox hg) | ((with_reducible refine gate_store (t := 45) (p := 16) rfl ?_); (try (rw [drewN_self w55]; generalize hq_ : World.drewN w55 _ = w55; have n0_ := Aside0.mk (Kd.R_at hq_ HO_8.out); have n1_ := Aside0.mk (blk_at hq_ BK242.out); have n2_ := Aside0.mk (below_at hq_ HB.out); clear hq_ HO_8 BK242 HB; have HO_8 := n0_; have BK242 := n1_; have HB := n2_; clear n0_ n1_ n2_)); refine Arr.storeA ?hg (T := 45) (p := 16) (v := ?vo_w56) ?ho ?hn (g := gb242) (off := 0) ?hx (m := ((.bool false) :: (.slice Ao54 t237.length co54) :: Arr.arL .i8 (Vector.replicate 16 0 : Vector Int 16))) ?hy (t := 45) (pre := []) (old := ((.bool false) :: (.slice none 0 0) :: Arr.arL .i8 (Vector.replicate 16 0 : Vector Int 16))) (show w55.heap[gb242]? = some (.cells (⟨(.bool false) :: (.slice none 0 0) :: Arr.arL .i8 (Vector.replicate 16 0 : Vector Int 16)⟩ : Array Value) 45 (0, 0)) from by (with_reducible repeat (first | refine blk_drewN ?_ _ | refine blk_drew ?_ | refine blk_alloc ?_ _)); exact BK242.out) rfl (by simp [Arr.arL_length]) (n := 18) (by kernel_rfl) (by simp [Arr.arL_length]) (Arr.ones_2 rfl rfl) ?_; (case ho => rfl); (case hg => rfl); (case hn => rfl); (case hx => first | (go_simp; done) | rfl | (go_simp; rfl)); (case hy => first | (go_simp; done) | rfl | (go_simp; rfl)); intro w56 hbx hg hbe; replace hbx : w56.heap[gb242]? = some (.cells (⟨(.bool false) :: (.slice Ao54 t237.length co54) :: Arr.arL .i8 (Vector.replicate 16 0 : Vector Int 16)⟩ : Array Value) 45 (0, 0)) := hbx; have n0_ := Aside0.mk (Kd.R_grown1 (by (with_reducible repeat (first | apply Kd.R_alloc | apply Kd.R_drewN | apply Kd.R_drew)); exact HO_8.out) rfl hg (Kd.R_ne HO_8.out BK242.out (by decide))); have n1_ := Aside0.mk (hbx); have n2_ := Aside0.mk (hbe _ _ (by repeat (first | (with_reducible first | exact HB.out | apply below_alloc | apply pw_below_drewN | apply below_drew1 | refine below_set ?_ GE242.out) | exact HB.out)) GE242.out); clear HO_8; clear BK242; clear HB; have HO_8 := n0_; have BK242 := n1_; have HB := n2_; clear n0_ n1_ n2_; (try clear hbx hg hbe)) | ((with_reducible refine Arr.gate_load (t := 45) (p := 16) rfl ?_); (try (refine gate_guard (by rfl) ?_; dsimp only)); refine Arr.loadA ?hg (T := 45) (p := 16) ?ho (g := gb242) (off := 0) ?hx (t := 45) (l := ((.bool false) :: (.slice Ao54 t237.length co54) :: Arr.arL .i8 (Vector.replicate 16 0 : Vector Int 16))) (m := ((.bool false) :: (.slice Ao54 t237.length co54) :: Arr.arL .i8 (Vector.replicate 16 0 : Vector Int 16))) (fr := (0, 0)) (show w56.heap[gb242]? = some (.cells (⟨(.bool false) :: (.slice Ao54 t237.length co54) :: Arr.arL .i8 (Vector.replicate 16 0 : Vector Int 16)⟩ : Array Value) 45 (0, 0)) from by (with_reducible repeat (first | refine blk_drewN ?_ _ | refine blk_drew ?_ | refine blk_alloc ?_ _)); exact BK242.out) rfl Tryd.underlying45 rfl (n := 18) (by kernel_rfl) (by simp [Arr.arL_length]) ?_; (case hg => rfl); (case ho => rfl); (case hx => first | (go_simp; done) | rfl | (go_simp; rfl))) | (go_at_call 38; (with_reducible refine (impl_CountKind.calls k2 false _ _ t237 (Vector.replicate 16 0 : Vector Int 16) 0 t243 t244 _ ?side1 ?side2 A43.out).mono ?_); (case side1 => repeat (first | exact (Kd.R_reads' HO_8.out).2.2 | (with_reducible refine Kd.C_alloc ?_ _) | (with_reducible refine Kd.C_drewN ?_ _) | (with_reducible refine Kd.C_drew ?_))); (case side2 => exact (Kd.R_reads' HO_8.out).2.1); rintro e w57 ⟨rfl, hb⟩; have n0_ := Aside0.mk (Kd.R_below (by (with_reducible repeat (first | apply Kd.R_alloc | apply Kd.R_drewN | apply Kd.R_drew)); exact HO_8.out) hb); have n1_ := Aside0.mk (blk_below (g := gb242) (o := .cells (⟨(.bool false) :: (.slice Ao54 t237.length co54) :: Arr.arL .i8 (Vector.replicate 16 0 : Vector Int 16)⟩ : Array Value) 45 (0, 0)) (by (with_reducible repeat (first | refine blk_drewN ?_ _ | refine blk_drew ?_ | refine blk_alloc ?_ _)); exact BK242.out) hb); have n2_ := Aside0.mk (below_step (by repeat (first | (with_reducible first | exact HB.out | apply below_alloc | apply pw_below_drewN | apply below_drew1 | refine below_set ?_ GE242.out) | exact HB.out)) hb); clear HO_8; clear BK242; clear HB; have HO_8 := n0_; have BK242 := n1_; have HB := n2_; clear n0_ n1_ n2_; (try clear hb); (try clear hb2); (try clear hk); (try clear hi)) | ((with_reducible refine Arr.gate_load (t := 45) (p := 16) rfl ?_); (try (refine gate_guard (by rfl) ?_; dsimp only)); refine Arr.loadA ?hg (T := 45) (p := 16) ?ho (g := gb242) (off := 0) ?hx (t := 45) (l := ((.bool false) :: (.slice Ao54 t237.length co54) :: Arr.arL .i8 (Vector.replicate 16 0 : Vector Int 16))) (m := ((.bool false) :: (.slice Ao54 t237.length co54) :: Arr.arL .i8 (Vector.replicate 16 0 : Vector Int 16))) (fr := (0, 0)) (show w57.heap[gb242]? = some (.cells (⟨(.bool false) :: (.slice Ao54 t237.length co54) :: Arr.arL .i8 (Vector.replicate 16 0 : Vector Int 16)⟩ : Array Value) 45 (0, 0)) from by (with_reducible repeat (first | refine blk_drewN ?_ _ | refine blk_drew ?_ | refine blk_alloc ?_ _)); exact BK242.out) rfl Tryd.underlying45 rfl (n := 18) (by kernel_rfl) (by simp [Arr.arL_length]) ?_; (case hg => rfl); (case ho => rfl); (case hx => first | (go_simp; done) | rfl | (go_simp; rfl))) | (go_at_call 38; (with_reducible refine (impl_CountKind.calls k2 false _ _ t237 (Vector.replicate 16 0 : Vector Int 16) 1 t245 t246 _ ?side1 ?side2 A45.out).mono ?_); (case side1 => repeat (first | exact (Kd.R_reads' HO_8.out).2.2 | (with_reducible refine Kd.C_alloc ?_ _) | (with_reducible refine Kd.C_drewN ?_ _) | (with_reducible refine Kd.C_drew ?_))); (case side2 => exact (Kd.R_reads' HO_8.out).2.1); rintro e w58 ⟨rfl, hb⟩; have n0_ := Aside0.mk (Kd.R_below (by (with_reducible repeat (first | apply Kd.R_alloc | apply Kd.R_drewN | apply Kd.R_drew)); exact HO_8.out) hb); have n1_ := Aside0.mk (blk_below (g := gb242) (o := .cells (⟨(.bool false) :: (.slice Ao54 t237.length co54) :: Arr.arL .i8 (Vector.replicate 16 0 : Vector Int 16)⟩ : Array Value) 45 (0, 0)) (by (with_reducible repeat (first | refine blk_drewN ?_ _ | refine blk_drew ?_ | refine blk_alloc ?_ _)); exact BK242.out) hb); have n2_ := Aside0.mk (below_step (by repeat (first | (with_reducible first | exact HB.out | apply below_alloc | apply pw_below_drewN | apply below_drew1 | refine below_set ?_ GE242.out) | exact HB.out)) hb); clear HO_8; clear BK242; clear HB; have HO_8 := n0_; have BK242 := n1_; have HB := n2_; clear n0_ n1_ n2_; (try clear hb); (try clear hb2); (try clear hk); (try clear hi)) | ((with_reducible refine Arr.gate_load (t := 45) (p := 16) rfl ?_); (try (refine gate_guard (by rfl) ?_; dsimp only)); refine Arr.loadA ?hg (T := 45) (p := 16) ?ho (g := gb242) (off := 0) ?hx (t := 45) (l := ((.bool false) :: (.slice Ao54 t237.length co54) :: Arr.arL .i8 (Vector.replicate 16 0 : Vector Int 16))) (m := ((.bool false) :: (.slice Ao54 t237.length co54) :: Arr.arL .i8 (Vector.replicate 16 0 : Vector Int 16))) (fr := (0, 0)) (show w58.heap[gb242]? = some (.cells (⟨(.bool false) :: (.slice Ao54 t237.length co54) :: Arr.arL .i8 (Vector.replicate 16 0 : Vector Int 16)⟩ : Array Value) 45 (0, 0)) from by (with_reducible repeat (first | refine blk_drewN ?_ _ | refine blk_drew ?_ | refine blk_alloc ?_ _)); exact BK242.out) rfl Tryd.underlying45 rfl (n := 18) (by kernel_rfl) (by simp [Arr.arL_length]) ?_; (case hg => rfl); (case ho => rfl); (case hx => first | (go_simp; done) | rfl | (go_simp; rfl))) | (go_at_call 38; (with_reducible refine (impl_CountKind.calls k2 false _ _ t237 (Vector.replicate 16 0 : Vector Int 16) 2 t247 t248 _ ?side1 ?side2 A47.out).mono ?_); (case side1 => repeat (first | exact (Kd.R_reads' HO_8.out).2.2 | (with_reducible refine Kd.C_alloc ?_ _) | (with_reducible refine Kd.C_drewN ?_ _) | (with_reducible refine Kd.C_drew ?_))); (case side2 => exact (Kd.R_reads' HO_8.out).2.1); rintro e w59 ⟨rfl, hb⟩; have n0_ := Aside0.mk (Kd.R_below (by (with_reducible repeat (first | apply Kd.R_alloc | apply Kd.R_drewN | apply Kd.R_drew)); exact HO_8.out) hb); have n1_ := Aside0.mk (blk_below (g := gb242) (o := .cells (⟨(.bool false) :: (.slice Ao54 t237.length co54) :: Arr.arL .i8 (Vector.replicate 16 0 : Vector Int 16)⟩ : Array Value) 45 (0, 0)) (by (with_reducible repeat (first | refine blk_drewN ?_ _ | refine blk_drew ?_ | refine blk_alloc ?_ _)); exact BK242.out) hb); have n2_ := Aside0.mk (below_step (by repeat (first | (with_reducible first | exact HB.out | apply below_alloc | apply pw_below_drewN | apply below_drew1 | refine below_set ?_ GE242.out) | exact HB.out)) hb); clear HO_8; clear BK242; clear HB; have HO_8 := n0_; have BK242 := n1_; have HB := n2_; clear n0_ n1_ n2_; (try clear hb); (try clear hb2); (try clear hk); (try clear hi)))
                              repeat (go_quiet (first | ((with_reducible refine gate_dst (N := 16) rfl ?_); refine box_event ?hg (N := 16) ?hd (cs := (⟨(.bool false) :: (.slice none 0 0) :: Arr.arL .i8 (Vector.replicate 16 0 : Vector Int 16)⟩ : Array Value)) (t := 45) ?hr ?_; (case hd => rfl); (case hg => rfl); (case hr => first | (go_simp; done) | (go_simp; rfl)); intro gb242 hg w55 hbox hb; have n0_ := Aside0.mk (Kd.R_below (by (with_reducible repeat (first | apply Kd.R_alloc | apply Kd.R_drewN | apply Kd.R_drew)); exact HO_8.out) hb); have n1_ := Aside0.mk (below_step (by repeat (first | (with_reducible first | exact HB.out | apply below_alloc | apply pw_below_drewN | apply below_drew1) | exact HB.out)) hb); have n2_ := Aside0.mk (hbox); have n3_ := Aside0.mk ((by rw [hg]; exact (below_size (by repeat (first | (with_reducible first | exact HB.out | apply below_alloc | apply pw_below_drewN | apply below_drew1) | exact HB.out))) : w.heap.size ≤ gb242)); have n4_ := Aside0.mk ((by rw [hg]; exact (below_size (by repeat (first | (with_reducible first | exact HB.out | apply below_alloc | apply pw_below_drewN | apply below_drew1) | exact HB.out))) : w.heap.size ≤ gb242)); clear HO_8; clear HB; have HO_8 := n0_; have HB := n1_; have BK242 := n2_; have GW242 := n3_; have GE242 := n4_; clear n0_ n1_ n2_ n3_ n4_; clear hb hbox hg) | ((with_reducible refine gate_store (t := 45) (p := 16) rfl ?_); (try (rw [drewN_self w55]; generalize hq_ : World.drewN w55 _ = w55; have n0_ := Aside0.mk (Kd.R_at hq_ HO_8.out); have n1_ := Aside0.mk (blk_at hq_ BK242.out); have n2_ := Aside0.mk (below_at hq_ HB.out); clear hq_ HO_8 BK242 HB; have HO_8 := n0_; have BK242 := n1_; have HB := n2_; clear n0_ n1_ n2_)); refine Arr.storeA ?hg (T := 45) (p := 16) (v := ?vo_w56) ?ho ?hn (g := gb242) (off := 0) ?hx (m := ((.bool false) :: (.slice Ao54 t237.length co54) :: Arr.arL .i8 (Vector.replicate 16 0 : Vector Int 16))) ?hy (t := 45) (pre := []) (old := ((.bool false) :: (.slice none 0 0) :: Arr.arL .i8 (Vector.replicate 16 0 : Vector Int 16))) (show w55.heap[gb242]? = some (.cells (⟨(.bool false) :: (.slice none 0 0) :: Arr.arL .i8 (Vector.replicate 16 0 : Vector Int 16)⟩ : Array Value) 45 (0, 0)) from by (with_reducible repeat (first | refine blk_drewN ?_ _ | refine blk_drew ?_ | refine blk_alloc ?_ _)); exact BK242.out) rfl (by simp [Arr.arL_length]) (n := 18) (by kernel_rfl) (by simp [Arr.arL_length]) (Arr.ones_2 rfl rfl) ?_; (case ho => rfl); (case hg => rfl); (case hn => rfl); (case hx => first | (go_simp; done) | rfl | (go_simp; rfl)); (case hy => first | (go_simp; done) | rfl | (go_simp; rfl)); intro w56 hbx hg hbe; replace hbx : w56.heap[gb242]? = some (.cells (⟨(.bool false) :: (.slice Ao54 t237.length co54) :: Arr.arL .i8 (Vector.replicate 16 0 : Vector Int 16)⟩ : Array Value) 45 (0, 0)) := hbx; have n0_ := Aside0.mk (Kd.R_grown1 (by (with_reducible repeat (first | apply Kd.R_alloc | apply Kd.R_drewN | apply Kd.R_drew)); exact HO_8.out) rfl hg (Kd.R_ne HO_8.out BK242.out (by decide))); have n1_ := Aside0.mk (hbx); have n2_ := Aside0.mk (hbe _ _ (by repeat (first | (with_reducible first | exact HB.out | apply below_alloc | apply pw_below_drewN | apply below_drew1 | refine below_set ?_ GE242.out) | exact HB.out)) GE242.out); clear HO_8; clear BK242; clear HB; have HO_8 := n0_; have BK242 := n1_; have HB := n2_; clear n0_ n1_ n2_; (try clear hbx hg hbe)) | ((with_reducible refine Arr.gate_load (t := 45) (p := 16) rfl ?_); (try (refine gate_guard (by rfl) ?_; dsimp only)); refine Arr.loadA ?hg (T := 45) (p := 16) ?ho (g := gb242) (off := 0) ?hx (t := 45) (l := ((.bool false) :: (.slice Ao54 t237.length co54) :: Arr.arL .i8 (Vector.replicate 16 0 : Vector Int 16))) (m := ((.bool false) :: (.slice Ao54 t237.length co54) :: Arr.arL .i8 (Vector.replicate 16 0 : Vector Int 16))) (fr := (0, 0)) (show w56.heap[gb242]? = some (.cells (⟨(.bool false) :: (.slice Ao54 t237.length co54) :: Arr.arL .i8 (Vector.replicate 16 0 : Vector Int 16)⟩ : Array Value) 45 (0, 0)) from by (with_reducible repeat (first | refine blk_drewN ?_ _ | refine blk_drew ?_ | refine blk_alloc ?_ _)); exact BK242.out) rfl Tryd.underlying45 rfl (n := 18) (by kernel_rfl) (by simp [Arr.arL_length]) ?_; (case hg => rfl); (case ho => rfl); (case hx => first | (go_simp; done) | rfl | (go_simp; rfl))) | (go_at_call 38; (with_reducible refine (impl_CountKind.calls k2 false _ _ t237 (Vector.replicate 16 0 : Vector Int 16) 0 t243 t244 _ ?side1 ?side2 A43.out).mono ?_); (case side1 => repeat (first | exact (Kd.R_reads' HO_8.out).2.2 | (with_reducible refine Kd.C_alloc ?_ _) | (with_reducible refine Kd.C_drewN ?_ _) | (with_reducible refine Kd.C_drew ?_))); (case side2 => exact (Kd.R_reads' HO_8.out).2.1); rintro e w57 ⟨rfl, hb⟩; have n0_ := Aside0.mk (Kd.R_below (by (with_reducible repeat (first | apply Kd.R_alloc | apply Kd.R_drewN | apply Kd.R_drew)); exact HO_8.out) hb); have n1_ := Aside0.mk (blk_below (g := gb242) (o := .cells (⟨(.bool false) :: (.slice Ao54 t237.length co54) :: Arr.arL .i8 (Vector.replicate 16 0 : Vector Int 16)⟩ : Array Value) 45 (0, 0)) (by (with_reducible repeat (first | refine blk_drewN ?_ _ | refine blk_drew ?_ | refine blk_alloc ?_ _)); exact BK242.out) hb); have n2_ := Aside0.mk (below_step (by repeat (first | (with_reducible first | exact HB.out | apply below_alloc | apply pw_below_drewN | apply below_drew1 | refine below_set ?_ GE242.out) | exact HB.out)) hb); clear HO_8; clear BK242; clear HB; have HO_8 := n0_; have BK242 := n1_; have HB := n2_; clear n0_ n1_ n2_; (try clear hb); (try clear hb2); (try clear hk); (try clear hi)) | ((with_reducible refine Arr.gate_load (t := 45) (p := 16) rfl ?_); (try (refine gate_guard (by rfl) ?_; dsimp only)); refine Arr.loadA ?hg (T := 45) (p := 16) ?ho (g := gb242) (off := 0) ?hx (t := 45) (l := ((.bool false) :: (.slice Ao54 t237.length co54) :: Arr.arL .i8 (Vector.replicate 16 0 : Vector Int 16))) (m := ((.bool false) :: (.slice Ao54 t237.length co54) :: Arr.arL .i8 (Vector.replicate 16 0 : Vector Int 16))) (fr := (0, 0)) (show w57.heap[gb242]? = some (.cells (⟨(.bool false) :: (.slice Ao54 t237.length co54) :: Arr.arL .i8 (Vector.replicate 16 0 : Vector Int 16)⟩ : Array Value) 45 (0, 0)) from by (with_reducible repeat (first | refine blk_drewN ?_ _ | refine blk_drew ?_ | refine blk_alloc ?_ _)); exact BK242.out) rfl Tryd.underlying45 rfl (n := 18) (by kernel_rfl) (by simp [Arr.arL_length]) ?_; (case hg => rfl); (case ho => rfl); (case hx => first | (go_simp; done) | rfl | (go_simp; rfl))) | (go_at_call 38; (with_reducible refine (impl_CountKind.calls k2 false _ _ t237 (Vector.replicate 16 0 : Vector Int 16) 1 t245 t246 _ ?side1 ?side2 A45.out).mono ?_); (case side1 => repeat (first | exact (Kd.R_reads' HO_8.out).2.2 | (with_reducible refine Kd.C_alloc ?_ _) | (with_reducible refine Kd.C_drewN ?_ _) | (with_reducible refine Kd.C_drew ?_))); (case side2 => exact (Kd.R_reads' HO_8.out).2.1); rintro e w58 ⟨rfl, hb⟩; have n0_ := Aside0.mk (Kd.R_below (by (with_reducible repeat (first | apply Kd.R_alloc | apply Kd.R_drewN | apply Kd.R_drew)); exact HO_8.out) hb); have n1_ := Aside0.mk (blk_below (g := gb242) (o := .cells (⟨(.bool false) :: (.slice Ao54 t237.length co54) :: Arr.arL .i8 (Vector.replicate 16 0 : Vector Int 16)⟩ : Array Value) 45 (0, 0)) (by (with_reducible repeat (first | refine blk_drewN ?_ _ | refine blk_drew ?_ | refine blk_alloc ?_ _)); exact BK242.out) hb); have n2_ := Aside0.mk (below_step (by repeat (first | (with_reducible first | exact HB.out | apply below_alloc | apply pw_below_drewN | apply below_drew1 | refine below_set ?_ GE242.out) | exact HB.out)) hb); clear HO_8; clear BK242; clear HB; have HO_8 := n0_; have BK242 := n1_; have HB := n2_; clear n0_ n1_ n2_; (try clear hb); (try clear hb2); (try clear hk); (try clear hi)) | ((with_reducible refine Arr.gate_load (t := 45) (p := 16) rfl ?_); (try (refine gate_guard (by rfl) ?_; dsimp only)); refine Arr.loadA ?hg (T := 45) (p := 16) ?ho (g := gb242) (off := 0) ?hx (t := 45) (l := ((.bool false) :: (.slice Ao54 t237.length co54) :: Arr.arL .i8 (Vector.replicate 16 0 : Vector Int 16))) (m := ((.bool false) :: (.slice Ao54 t237.length co54) :: Arr.arL .i8 (Vector.replicate 16 0 : Vector Int 16))) (fr := (0, 0)) (show w58.heap[gb242]? = some (.cells (⟨(.bool false) :: (.slice Ao54 t237.length co54) :: Arr.arL .i8 (Vector.replicate 16 0 : Vector Int 16)⟩ : Array Value) 45 (0, 0)) from by (with_reducible repeat (first | refine blk_drewN ?_ _ | refine blk_drew ?_ | refine blk_alloc ?_ _)); exact BK242.out) rfl Tryd.underlying45 rfl (n := 18) (by kernel_rfl) (by simp [Arr.arL_length]) ?_; (case hg => rfl); (case ho => rfl); (case hx => first | (go_simp; done) | rfl | (go_simp; rfl))) | (go_at_call 38; (with_reducible refine (impl_CountKind.calls k2 false _ _ t237 (Vector.replicate 16 0 : Vector Int 16) 2 t247 t248 _ ?side1 ?side2 A47.out).mono ?_); (case side1 => repeat (first | exact (Kd.R_reads' HO_8.out).2.2 | (with_reducible refine Kd.C_alloc ?_ _) | (with_reducible refine Kd.C_drewN ?_ _) | (with_reducible refine Kd.C_drew ?_))); (case side2 => exact (Kd.R_reads' HO_8.out).2.1); rintro e w59 ⟨rfl, hb⟩; have n0_ := Aside0.mk (Kd.R_below (by (with_reducible repeat (first | apply Kd.R_alloc | apply Kd.R_drewN | apply Kd.R_drew)); exact HO_8.out) hb); have n1_ := Aside0.mk (blk_below (g := gb242) (o := .cells (⟨(.bool false) :: (.slice Ao54 t237.length co54) :: Arr.arL .i8 (Vector.replicate 16 0 : Vector Int 16)⟩ : Array Value) 45 (0, 0)) (by (with_reducible repeat (first | refine blk_drewN ?_ _ | refine blk_drew ?_ | refine blk_alloc ?_ _)); exact BK242.out) hb); have n2_ := Aside0.mk (below_step (by repeat (first | (with_reducible first | exact HB.out | apply below_alloc | apply pw_below_drewN | apply below_drew1 | refine below_set ?_ GE242.out) | exact HB.out)) hb); clear HO_8; clear BK242; clear HB; have HO_8 := n0_; have BK242 := n1_; have HB := n2_; clear n0_ n1_ n2_; (try clear hb); (try clear hb2); (try clear hk); (try clear hi))); try go_wp2_with (first | ((with_reducible refine gate_dst (N := 16) rfl ?_); refine box_event ?hg (N := 16) ?hd (cs := (⟨(.bool false) :: (.slice none 0 0) :: Arr.arL .i8 (Vector.replicate 16 0 : Vector Int 16)⟩ : Array Value)) (t := 45) ?hr ?_; (case hd => rfl); (case hg => rfl); (case hr => first | (go_simp; done) | (go_simp; rfl)); intro gb242 hg w55 hbox hb; have n0_ := Aside0.mk (Kd.R_below (by (with_reducible repeat (first | apply Kd.R_alloc | apply Kd.R_drewN | apply Kd.R_drew)); exact HO_8.out) hb); have n1_ := Aside0.mk (below_step (by repeat (first | (with_reducible first | exact HB.out | apply below_alloc | apply pw_below_drewN | apply below_drew1) | exact HB.out)) hb); have n2_ := Aside0.mk (hbox); have n3_ := Aside0.mk ((by rw [hg]; exact (below_size (by repeat (first | (with_reducible first | exact HB.out | apply below_alloc | apply pw_below_drewN | apply below_drew1) | exact HB.out))) : w.heap.size ≤ gb242)); have n4_ := Aside0.mk ((by rw [hg]; exact (below_size (by repeat (first | (with_reducible first | exact HB.out | apply below_alloc | apply pw_below_drewN | apply below_drew1) | exact HB.out))) : w.heap.size ≤ gb242)); clear HO_8; clear HB; have HO_8 := n0_; have HB := n1_; have BK242 := n2_; have GW242 := n3_; have GE242 := n4_; clear n0_ n1_ n2_ n3_ n4_; clear hb hbox hg) | ((with_reducible refine gate_store (t := 45) (p := 16) rfl ?_); (try (rw [drewN_self w55]; generalize hq_ : World.drewN w55 _ = w55; have n0_ := Aside0.mk (Kd.R_at hq_ HO_8.out); have n1_ := Aside0.mk (blk_at hq_ BK242.out); have n2_ := Aside0.mk (below_at hq_ HB.out); clear hq_ HO_8 BK242 HB; have HO_8 := n0_; have BK242 := n1_; have HB := n2_; clear n0_ n1_ n2_)); refine Arr.storeA ?hg (T := 45) (p := 16) (v := ?vo_w56) ?ho ?hn (g := gb242) (off := 0) ?hx (m := ((.bool false) :: (.slice Ao54 t237.length co54) :: Arr.arL .i8 (Vector.replicate 16 0 : Vector Int 16))) ?hy (t := 45) (pre := []) (old := ((.bool false) :: (.slice none 0 0) :: Arr.arL .i8 (Vector.replicate 16 0 : Vector Int 16))) (show w55.heap[gb242]? = some (.cells (⟨(.bool false) :: (.slice none 0 0) :: Arr.arL .i8 (Vector.replicate 16 0 : Vector Int 16)⟩ : Array Value) 45 (0, 0)) from by (with_reducible repeat (first | refine blk_drewN ?_ _ | refine blk_drew ?_ | refine blk_alloc ?_ _)); exact BK242.out) rfl (by simp [Arr.arL_length]) (n := 18) (by kernel_rfl) (by simp [Arr.arL_length]) (Arr.ones_2 rfl rfl) ?_; (case ho => rfl); (case hg => rfl); (case hn => rfl); (case hx => first | (go_simp; done) | rfl | (go_simp; rfl)); (case hy => first | (go_simp; done) | rfl | (go_simp; rfl)); intro w56 hbx hg hbe; replace hbx : w56.heap[gb242]? = some (.cells (⟨(.bool false) :: (.slice Ao54 t237.length co54) :: Arr.arL .i8 (Vector.replicate 16 0 : Vector Int 16)⟩ : Array Value) 45 (0, 0)) := hbx; have n0_ := Aside0.mk (Kd.R_grown1 (by (with_reducible repeat (first | apply Kd.R_alloc | apply Kd.R_drewN | apply Kd.R_drew)); exact HO_8.out) rfl hg (Kd.R_ne HO_8.out BK242.out (by decide))); have n1_ := Aside0.mk (hbx); have n2_ := Aside0.mk (hbe _ _ (by repeat (first | (with_reducible first | exact HB.out | apply below_alloc | apply pw_below_drewN | apply below_drew1 | refine below_set ?_ GE242.out) | exact HB.out)) GE242.out); clear HO_8; clear BK242; clear HB; have HO_8 := n0_; have BK242 := n1_; have HB := n2_; clear n0_ n1_ n2_; (try clear hbx hg hbe)) | ((with_reducible refine Arr.gate_load (t := 45) (p := 16) rfl ?_); (try (refine gate_guard (by rfl) ?_; dsimp only)); refine Arr.loadA ?hg (T := 45) (p := 16) ?ho (g := gb242) (off := 0) ?hx (t := 45) (l := ((.bool false) :: (.slice Ao54 t237.length co54) :: Arr.arL .i8 (Vector.replicate 16 0 : Vector Int 16))) (m := ((.bool false) :: (.slice Ao54 t237.length co54) :: Arr.arL .i8 (Vector.replicate 16 0 : Vector Int 16))) (fr := (0, 0)) (show w56.heap[gb242]? = some (.cells (⟨(.bool false) :: (.slice Ao54 t237.length co54) :: Arr.arL .i8 (Vector.replicate 16 0 : Vector Int 16)⟩ : Array Value) 45 (0, 0)) from by (with_reducible repeat (first | refine blk_drewN ?_ _ | refine blk_drew ?_ | refine blk_alloc ?_ _)); exact BK242.out) rfl Tryd.underlying45 rfl (n := 18) (by kernel_rfl) (by simp [Arr.arL_length]) ?_; (case hg => rfl); (case ho => rfl); (case hx => first | (go_simp; done) | rfl | (go_simp; rfl))) | (go_at_call 38; (with_reducible refine (impl_CountKind.calls k2 false _ _ t237 (Vector.replicate 16 0 : Vector Int 16) 0 t243 t244 _ ?side1 ?side2 A43.out).mono ?_); (case side1 => repeat (first | exact (Kd.R_reads' HO_8.out).2.2 | (with_reducible refine Kd.C_alloc ?_ _) | (with_reducible refine Kd.C_drewN ?_ _) | (with_reducible refine Kd.C_drew ?_))); (case side2 => exact (Kd.R_reads' HO_8.out).2.1); rintro e w57 ⟨rfl, hb⟩; have n0_ := Aside0.mk (Kd.R_below (by (with_reducible repeat (first | apply Kd.R_alloc | apply Kd.R_drewN | apply Kd.R_drew)); exact HO_8.out) hb); have n1_ := Aside0.mk (blk_below (g := gb242) (o := .cells (⟨(.bool false) :: (.slice Ao54 t237.length co54) :: Arr.arL .i8 (Vector.replicate 16 0 : Vector Int 16)⟩ : Array Value) 45 (0, 0)) (by (with_reducible repeat (first | refine blk_drewN ?_ _ | refine blk_drew ?_ | refine blk_alloc ?_ _)); exact BK242.out) hb); have n2_ := Aside0.mk (below_step (by repeat (first | (with_reducible first | exact HB.out | apply below_alloc | apply pw_below_drewN | apply below_drew1 | refine below_set ?_ GE242.out) | exact HB.out)) hb); clear HO_8; clear BK242; clear HB; have HO_8 := n0_; have BK242 := n1_; have HB := n2_; clear n0_ n1_ n2_; (try clear hb); (try clear hb2); (try clear hk); (try clear hi)) | ((with_reducible refine Arr.gate_load (t := 45) (p := 16) rfl ?_); (try (refine gate_guard (by rfl) ?_; dsimp only)); refine Arr.loadA ?hg (T := 45) (p := 16) ?ho (g := gb242) (off := 0) ?hx (t := 45) (l := ((.bool false) :: (.slice Ao54 t237.length co54) :: Arr.arL .i8 (Vector.replicate 16 0 : Vector Int 16))) (m := ((.bool false) :: (.slice Ao54 t237.length co54) :: Arr.arL .i8 (Vector.replicate 16 0 : Vector Int 16))) (fr := (0, 0)) (show w57.heap[gb242]? = some (.cells (⟨(.bool false) :: (.slice Ao54 t237.length co54) :: Arr.arL .i8 (Vector.replicate 16 0 : Vector Int 16)⟩ : Array Value) 45 (0, 0)) from by (with_reducible repeat (first | refine blk_drewN ?_ _ | refine blk_drew ?_ | refine blk_alloc ?_ _)); exact BK242.out) rfl Tryd.underlying45 rfl (n := 18) (by kernel_rfl) (by simp [Arr.arL_length]) ?_; (case hg => rfl); (case ho => rfl); (case hx => first | (go_simp; done) | rfl | (go_simp; rfl))) | (go_at_call 38; (with_reducible refine (impl_CountKind.calls k2 false _ _ t237 (Vector.replicate 16 0 : Vector Int 16) 1 t245 t246 _ ?side1 ?side2 A45.out).mono ?_); (case side1 => repeat (first | exact (Kd.R_reads' HO_8.out).2.2 | (with_reducible refine Kd.C_alloc ?_ _) | (with_reducible refine Kd.C_drewN ?_ _) | (with_reducible refine Kd.C_drew ?_))); (case side2 => exact (Kd.R_reads' HO_8.out).2.1); rintro e w58 ⟨rfl, hb⟩; have n0_ := Aside0.mk (Kd.R_below (by (with_reducible repeat (first | apply Kd.R_alloc | apply Kd.R_drewN | apply Kd.R_drew)); exact HO_8.out) hb); have n1_ := Aside0.mk (blk_below (g := gb242) (o := .cells (⟨(.bool false) :: (.slice Ao54 t237.length co54) :: Arr.arL .i8 (Vector.replicate 16 0 : Vector Int 16)⟩ : Array Value) 45 (0, 0)) (by (with_reducible repeat (first | refine blk_drewN ?_ _ | refine blk_drew ?_ | refine blk_alloc ?_ _)); exact BK242.out) hb); have n2_ := Aside0.mk (below_step (by repeat (first | (with_reducible first | exact HB.out | apply below_alloc | apply pw_below_drewN | apply below_drew1 | refine below_set ?_ GE242.out) | exact HB.out)) hb); clear HO_8; clear BK242; clear HB; have HO_8 := n0_; have BK242 := n1_; have HB := n2_; clear n0_ n1_ n2_; (try clear hb); (try clear hb2); (try clear hk); (try clear hi)) | ((with_reducible refine Arr.gate_load (t := 45) (p := 16) rfl ?_); (try (refine gate_guard (by rfl) ?_; dsimp only)); refine Arr.loadA ?hg (T := 45) (p := 16) ?ho (g := gb242) (off := 0) ?hx (t := 45) (l := ((.bool false) :: (.slice Ao54 t237.length co54) :: Arr.arL .i8 (Vector.replicate 16 0 : Vector Int 16))) (m := ((.bool false) :: (.slice Ao54 t237.length co54) :: Arr.arL .i8 (Vector.replicate 16 0 : Vector Int 16))) (fr := (0, 0)) (show w58.heap[gb242]? = some (.cells (⟨(.bool false) :: (.slice Ao54 t237.length co54) :: Arr.arL .i8 (Vector.replicate 16 0 : Vector Int 16)⟩ : Array Value) 45 (0, 0)) from by (with_reducible repeat (first | refine blk_drewN ?_ _ | refine blk_drew ?_ | refine blk_alloc ?_ _)); exact BK242.out) rfl Tryd.underlying45 rfl (n := 18) (by kernel_rfl) (by simp [Arr.arL_length]) ?_; (case hg => rfl); (case ho => rfl); (case hx => first | (go_simp; done) | rfl | (go_simp; rfl))) | (go_at_call 38; (with_reducible refine (impl_CountKind.calls k2 false _ _ t237 (Vector.replicate 16 0 : Vector Int 16) 2 t247 t248 _ ?side1 ?side2 A47.out).mono ?_); (case side1 => repeat (first | exact (Kd.R_reads' HO_8.out).2.2 | (with_reducible refine Kd.C_alloc ?_ _) | (with_reducible refine Kd.C_drewN ?_ _) | (with_reducible refine Kd.C_drew ?_))); (case side2 => exact (Kd.R_reads' HO_8.out).2.1); rintro e w59 ⟨rfl, hb⟩; have n0_ := Aside0.mk (Kd.R_below (by (with_reducible repeat (first | apply Kd.R_alloc | apply Kd.R_drewN | apply Kd.R_drew)); exact HO_8.out) hb); have n1_ := Aside0.mk (blk_below (g := gb242) (o := .cells (⟨(.bool false) :: (.slice Ao54 t237.length co54) :: Arr.arL .i8 (Vector.replicate 16 0 : Vector Int 16)⟩ : Array Value) 45 (0, 0)) (by (with_reducible repeat (first | refine blk_drewN ?_ _ | refine blk_drew ?_ | refine blk_alloc ?_ _)); exact BK242.out) hb); have n2_ := Aside0.mk (below_step (by repeat (first | (with_reducible first | exact HB.out | apply below_alloc | apply pw_below_drewN | apply below_drew1 | refine below_set ?_ GE242.out) | exact HB.out)) hb); clear HO_8; clear BK242; clear HB; have HO_8 := n0_; have BK242 := n1_; have HB := n2_; clear n0_ n1_ n2_; (try clear hb); (try clear hb2); (try clear hk); (try clear hi))))
                              go_ret
                              exact ⟨by first | rfl | (simp [errW_none, errW_some] <;> rfl) | (simp [*, errW_none, errW_some] <;> rfl), by repeat (first | (with_reducible first | exact HB.out | apply below_alloc | apply pw_below_drewN | apply below_drew1 | refine below_set ?_ GE242.out) | exact HB.out)⟩
                            · rw [if_neg c53] at H
                              have c53b0 : (t248 == 0) = false := beq_eq_false_iff_ne.mpr c53
                              have c53b1 : (t248 != 0) = true := bne_iff_ne.mpr c53
                              obtain rfl := Option.some.inj H
                              cases ht
                          · rw [if_neg c52] at H
                            have c52b0 : decide (t245 < 20) = false := decide_eq_false c52
                            clear c52
                            obtain rfl := Option.some.inj H
                            cases ht
                        · rw [if_neg c51] at H
                          have c51b0 : (t246 == 0) = false := beq_eq_false_iff_ne.mpr c51
                          have c51b1 : (t246 != 0) = true := bne_iff_ne.mpr c51
                          obtain rfl := Option.some.inj H
                          cases ht
                      · rw [if_neg c50] at H
                        have c50b0 : decide (t243 < 12) = false := decide_eq_false c50
                        clear c50
                        obtain rfl := Option.some.inj H
                        cases ht
                    · rw [if_neg c49] at H
                      have c49b0 : (t244 == 0) = false := beq_eq_false_iff_ne.mpr c49
                      have c49b1 : (t244 != 0) = true := bne_iff_ne.mpr c49
                      obtain rfl := Option.some.inj H
                      cases ht
                  · rw [if_neg c48] at H
                    have c48b0 : (x10_2 == t229) = false := beq_eq_false_iff_ne.mpr c48
                    have c48b1 : (x10_2 != t229) = true := bne_iff_ne.mpr c48
                    obtain rfl := Option.some.inj H
                    cases ht
          · rw [if_neg c22] at H
            have c22b0 : (t234 == 0) = false := beq_eq_false_iff_ne.mpr c22
            have c22b1 : (t234 != 0) = true := bne_iff_ne.mpr c22
            obtain rfl := Option.some.inj H
            go_wp2
            repeat (go_quiet (fail); try go_wp2)
            go_ret
            exact ⟨by first | rfl | (simp [errW_none, errW_some] <;> rfl) | (simp [*, errW_none, errW_some] <;> rfl), by repeat (first | (with_reducible first | exact HB.out | apply below_alloc | apply pw_below_drewN | apply below_drew1) | exact HB.out)⟩

end Go.Proofs.YtfjmljgbdejghaaDoor.MAmounts
