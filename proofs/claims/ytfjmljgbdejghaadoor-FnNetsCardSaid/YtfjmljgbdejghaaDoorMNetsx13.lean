-- by a program of this session, for this claim
import Derived.Test.YtfjmljgbdejghaaDoorMNetsx0
import Derived.Test.YtfjmljgbdejghaaDoorMNetsx1
import Derived.Test.YtfjmljgbdejghaaDoorMNetsx2
import Derived.Test.YtfjmljgbdejghaaDoorMNetsx12
namespace Go.Proofs.YtfjmljgbdejghaaDoor.MNets
open Go.RowKit Go.Proofs.YtfjmljgbdejghaaDoorW.PrintWords Go.Proofs.YtfjmljgbdejghaaDoorW.PrintLast Go.Proofs.YtfjmljgbdejghaaDoorW.PrintMore
attribute [local go_sem] max2_int min2_int max_two min_two max_three min_three max_four min_four   -- for this text's walks alone
set_option linter.unusedVariables false
set_option linter.unusedSimpArgs false

attribute [local go_sem high] eqA77
/-! ### spec_A2Same: function 46 -/
def spec_A2Same.f (k : Nat) (l0 : List Int) (l1 : List Int) : Option (Bool) := (spec_l00Same.f k l0 l1).bind fun t332 => (some t332)
theorem spec_A2Same.mono : ∀ a0 a1 k, LeO (spec_A2Same.f k a0 a1) (spec_A2Same.f (k + 1) a0 a1) := by
  intro a0 a1 k; unfold spec_A2Same.f
  repeat' first
      | (with_reducible exact spec_l00Same.mono _ _ _)
      | (with_reducible exact LeO.refl _)
      | (with_reducible exact LeO.none _)
      | (with_reducible refine LeO.ite ?_ ?_)
      | (with_reducible refine LeO.bind ?_ (fun _ => ?_))
      | exact spec_l00Same.mono _ _ _
      | exact LeO.none _
      | refine LeO.ite ?_ ?_
      | refine LeO.bind ?_ (fun _ => ?_)
set_option maxHeartbeats 8000000 in
set_option maxRecDepth 100000 in
theorem spec_A2Same.calls (k : Nat) (A0 : Option Addr) (c0 : Nat) (l0 : List Int) (A1 : Option Addr) (c1 : Nat) (l1 : List Int) (r : Bool) (w : World) (hr0 : Kd.C (Kd.int .i64) w A0 l0.length l0) (hc0 : l0.length ≤ c0) (hr1 : Kd.C (Kd.int .i64) w A1 l1.length l1) (hc1 : l1.length ≤ c1) (h : spec_A2Same.f k l0 l1 = some r) :
    Calls Tryd.prog 46 #[.slice A0 l0.length c0, .slice A1 l1.length c1] w fun e w' => e = .returned (.bool r) ∧ Drawn0 w w' := by
  have HR0 := Aside0.mk hr0; have HC0 := Aside0.mk hc0; clear hr0 hc0; have HR1 := Aside0.mk hr1; have HC1 := Aside0.mk hc1; clear hr1 hc1; have H : ((spec_l00Same.f k l0 l1).bind fun t332 => (some t332)) = some r := h; clear h; replace H := Option.bind_eq_some_iff.mp H; obtain ⟨t332, A30, H⟩ := H; replace H : (some t332) = some r := H; have A3 := Aside0.mk A30; clear A30; obtain rfl := Option.some.inj H; go_enter Tryd.func46, Tryd.ntmps46; go_wp2_with (first | ((with_reducible refine gate_callee (f := 96) rfl ?_); refine goesL_ (some 7) rfl rfl Tryd.func96 z4_ rfl #[.slice A0 l0.length c0, .slice A1 l1.length c1] rfl z1_ ?_; (with_reducible refine (spec_l00Same.calls k _ _ l0 _ _ l1 t332 _ ?side1 ?side2 ?side3 ?side4 A3.out).mono ?_); (case side1 => repeat (first | exact HR0.out | (with_reducible refine Kd.C_alloc ?_ _) | (with_reducible refine Kd.C_drewN ?_ _) | (with_reducible refine Kd.C_drew ?_))); (case side2 => exact HC0.out); (case side3 => repeat (first | exact HR1.out | (with_reducible refine Kd.C_alloc ?_ _) | (with_reducible refine Kd.C_drewN ?_ _) | (with_reducible refine Kd.C_drew ?_))); (case side4 => exact HC1.out); rintro e w' ⟨rfl, ⟨nd, rfl⟩⟩; refine ⟨_, rfl, ?_⟩)); go_ret; exact ⟨z5_, z10_⟩

/-! ### spec_A2Sum: function 47 -/
def spec_A2Sum.l0 : Nat → List Int → Int → Int → Option (Int)
  | 0, _, _, _ => none
  | k + 1, x0, x3, x4 => if x4 < (x0.length : Int) then (if 0 ≤ x4 then (spec_A2Sum.l0 k x0 (wrap64 (x3 + (rd x0 x4))) (wrap64 (x4 + 1))) else (none)) else (some x3)
def spec_A2Sum.f (k : Nat) (l0 : List Int) : Option (Int) := spec_A2Sum.l0 k l0 0 0
theorem spec_A2Sum.mono_l : ∀ k, (∀ y0 y1 y2, LeO (spec_A2Sum.l0 k y0 y1 y2) (spec_A2Sum.l0 (k + 1) y0 y1 y2))
  | 0 => fun _ _ _ r h => by simp [spec_A2Sum.l0] at h
  | k + 1 => by
    have ih0 := spec_A2Sum.mono_l k
    · intro y0 y1 y2
      unfold spec_A2Sum.l0
      repeat' first
      | (with_reducible exact ih0 _ _ _)
      | (with_reducible exact LeO.refl _)
      | (with_reducible exact LeO.none _)
      | (with_reducible refine LeO.ite ?_ ?_)
      | (with_reducible refine LeO.bind ?_ (fun _ => ?_))
      | exact ih0 _ _ _
      | exact LeO.none _
      | refine LeO.ite ?_ ?_
      | refine LeO.bind ?_ (fun _ => ?_)
theorem spec_A2Sum.mono : ∀ a0 k, LeO (spec_A2Sum.f k a0) (spec_A2Sum.f (k + 1) a0) := by
  intro a0 k; have ih0 := spec_A2Sum.mono_l k; unfold spec_A2Sum.f
  repeat' first
      | (with_reducible exact ih0 _ _ _)
      | (with_reducible exact LeO.refl _)
      | (with_reducible exact LeO.none _)
      | (with_reducible refine LeO.ite ?_ ?_)
      | (with_reducible refine LeO.bind ?_ (fun _ => ?_))
      | exact ih0 _ _ _
      | exact LeO.none _
      | refine LeO.ite ?_ ?_
      | refine LeO.bind ?_ (fun _ => ?_)
set_option maxHeartbeats 8000000 in
set_option maxRecDepth 100000 in
theorem spec_A2Sum.calls (k : Nat) (A0 : Option Addr) (c0 : Nat) (l0 : List Int) (r : Int) (w : World) (hr0 : Kd.C (Kd.int .i64) w A0 l0.length l0) (hc0 : l0.length ≤ c0) (h : spec_A2Sum.f k l0 = some r) :
    Calls Tryd.prog 47 #[.slice A0 l0.length c0] w fun e w' => e = .returned (.int .i64 r) ∧ Drawn0 w w' := by
  have HR0 := Aside0.mk hr0; have HC0 := Aside0.mk hc0; clear hr0 hc0; have H : (spec_A2Sum.l0 k l0 0 0) = some r := h; clear h; have H' := Aside0.mk H; clear H; go_enter Tryd.func47, Tryd.ntmps47; go_wp2; go_loopg [3, 4] k (fun kq v3 v4 w' => ∃ (x3_1 : Int) (x4_1 : Int), v3 = .int .i64 x3_1 ∧ v4 = .int .i64 x4_1 ∧ Aside0 (spec_A2Sum.l0 kq l0 x3_1 x4_1 = some r) ∧ Aside0 (kq ≤ k) ∧ Drawn0 w w')
  case atStart => exact ⟨(0), (0), z5_, z5_, H', ⟨Nat.le_refl _⟩, z10_⟩
  case round =>
    clear H'; obtain ⟨x3_1, x4_1, rfl, rfl, HA, HK1, ⟨m1, rfl⟩⟩ := hrel
    cases gk with
    | zero => exact absurd HA.out (by simp [spec_A2Sum.l0])
    | succ k1 =>
      have H := HA.out; clear HA; simp only [spec_A2Sum.l0] at H; by_cases c2 : x4_1 < (l0.length : Int)
      ·rw [if_pos c2] at H; have c2b0 : decide (x4_1 < (l0.length : Int)) = true := decide_eq_true c2; clear c2; by_cases c3 : 0 ≤ x4_1
       ·rw [if_pos c3] at H; have c3b0 : decide (0 ≤ x4_1) = true := decide_eq_true c3; clear c3; have H' := Aside0.mk H; clear H; have p333 : 0 ≤ (x4_1 : Int) := of_decide_eq_true z2_; have q333 : x4_1 < (l0.length : Int) := of_decide_eq_true z2_; obtain ⟨ad333, e333, hx333_0⟩ := Kd.at_int HR0.out x4_1 p333 q333; cases e333; replace p333 := eq_true p333; replace q333 := eq_true q333; go_wp2; go_roundg k1
        case measure => have := HK1.out; omega
        case rel => exact ⟨(wrap64 (x3_1 + (rd l0 x4_1))), (wrap64 (x4_1 + 1)), z5_, z5_, H', ⟨z62_⟩, z10_⟩
       ·rw [if_neg c3] at H; exact absurd H (by simp)
      ·rw [if_neg c2] at H; have c2b0 : decide (x4_1 < (l0.length : Int)) = false := decide_eq_false c2; clear c2; obtain rfl := Option.some.inj H; go_wp2; go_ret; exact ⟨z5_, z10_⟩

/-! ### spec_l02Same: function 97 -/
def spec_l02Same.l0 : Nat → List (S77) → List (S77) → Int → Option (Bool)
  | 0, _, _, _ => none
  | k + 1, x0, x1, x5 => if x5 < (x0.length : Int) then (if 0 ≤ x5 then (if x5 < (x1.length : Int) then (if (!(((rd_T77 x0 x5).f0) == ((rd_T77 x1 x5).f0)) || (!(((rd_T77 x0 x5).f1) == ((rd_T77 x1 x5).f1)) || (!(((rd_T77 x0 x5).f2) == ((rd_T77 x1 x5).f2))))) = true then (some false) else (spec_l02Same.l0 k x0 x1 (wrap64 (x5 + 1)))) else (none)) else (none)) else (some true)
def spec_l02Same.f (k : Nat) (l0 : List (S77)) (l1 : List (S77)) : Option (Bool) := if (l0.length : Int) = (l1.length : Int) then (spec_l02Same.l0 k l0 l1 0) else (some false)
theorem spec_l02Same.mono_l : ∀ k, (∀ y0 y1 y2, LeO (spec_l02Same.l0 k y0 y1 y2) (spec_l02Same.l0 (k + 1) y0 y1 y2))
  | 0 => fun _ _ _ r h => by simp [spec_l02Same.l0] at h
  | k + 1 => by
    have ih0 := spec_l02Same.mono_l k
    · intro y0 y1 y2
      unfold spec_l02Same.l0
      repeat' first
      | (with_reducible exact ih0 _ _ _)
      | (with_reducible exact LeO.refl _)
      | (with_reducible exact LeO.none _)
      | (with_reducible refine LeO.ite ?_ ?_)
      | (with_reducible refine LeO.bind ?_ (fun _ => ?_))
      | exact ih0 _ _ _
      | exact LeO.none _
      | refine LeO.ite ?_ ?_
      | refine LeO.bind ?_ (fun _ => ?_)
theorem spec_l02Same.mono : ∀ a0 a1 k, LeO (spec_l02Same.f k a0 a1) (spec_l02Same.f (k + 1) a0 a1) := by
  intro a0 a1 k; have ih0 := spec_l02Same.mono_l k; unfold spec_l02Same.f
  repeat' first
      | (with_reducible exact ih0 _ _ _)
      | (with_reducible exact LeO.refl _)
      | (with_reducible exact LeO.none _)
      | (with_reducible refine LeO.ite ?_ ?_)
      | (with_reducible refine LeO.bind ?_ (fun _ => ?_))
      | exact ih0 _ _ _
      | exact LeO.none _
      | refine LeO.ite ?_ ?_
      | refine LeO.bind ?_ (fun _ => ?_)
set_option maxHeartbeats 8000000 in
set_option maxRecDepth 100000 in
theorem spec_l02Same.calls (k : Nat) (A0 : Option Addr) (c0 : Nat) (l0 : List (S77)) (A1 : Option Addr) (c1 : Nat) (l1 : List (S77)) (r : Bool) (w : World) (hr0 : Kd.C k77 w A0 l0.length l0) (hc0 : l0.length ≤ c0) (hr1 : Kd.C k77 w A1 l1.length l1) (hc1 : l1.length ≤ c1) (h : spec_l02Same.f k l0 l1 = some r) :
    Calls Tryd.prog 97 #[.slice A0 l0.length c0, .slice A1 l1.length c1] w fun e w' => e = .returned (.bool r) ∧ Drawn0 w w' := by
  have hu77 := Tryd.underlying77; have HR0 := Aside0.mk hr0; have HC0 := Aside0.mk hc0; clear hr0 hc0; have HR1 := Aside0.mk hr1; have HC1 := Aside0.mk hc1; clear hr1 hc1; have H : (if (l0.length : Int) = (l1.length : Int) then (spec_l02Same.l0 k l0 l1 0) else (some false)) = some r := h; clear h; by_cases c3 : (l0.length : Int) = (l1.length : Int)
  ·rw [if_pos c3] at H; have c3b0 : ((l0.length : Int) == (l1.length : Int)) = true := beq_iff_eq.mpr c3; have c3b1 : ((l0.length : Int) != (l1.length : Int)) = false := bne_eq_false_iff_eq.mpr c3; (have c3b2 : (l0.length == l1.length) = true := z65_); clear c3; have H' := Aside0.mk H; clear H; go_enter Tryd.func97, Tryd.ntmps97; go_wp2; (repeat (go_quiet (fail); try go_wp2)); go_loopg [5] k (fun kq v5 w' => ∃ (x5_1 : Int), v5 = .int .i64 x5_1 ∧ Aside0 (spec_l02Same.l0 kq l0 l1 x5_1 = some r) ∧ Aside0 (kq ≤ k) ∧ Drawn0 w w')
   case atStart => exact ⟨(0), z5_, H', ⟨Nat.le_refl _⟩, z10_⟩
   case round =>
     clear H'; (try clear c1); (try clear p2); (try clear c3); (try clear c3b0); (try clear c3b1); (try clear c3b2); obtain ⟨x5_1, rfl, HA, HK1, ⟨m1, rfl⟩⟩ := hrel
     cases gk with
     | zero => exact absurd HA.out (by simp [spec_l02Same.l0])
     | succ k1 =>
       have H := HA.out; clear HA; simp only [spec_l02Same.l0] at H; by_cases c4 : x5_1 < (l0.length : Int)
       ·rw [if_pos c4] at H; have c4b0 : decide (x5_1 < (l0.length : Int)) = true := decide_eq_true c4; clear c4; by_cases c5 : 0 ≤ x5_1
        ·rw [if_pos c5] at H; have c5b0 : decide (0 ≤ x5_1) = true := decide_eq_true c5; clear c5; by_cases c6 : x5_1 < (l1.length : Int)
         ·rw [if_pos c6] at H; have c6b0 : decide (x5_1 < (l1.length : Int)) = true := decide_eq_true c6; clear c6; by_cases c7 : (!(((rd_T77 l0 x5_1).f0) == ((rd_T77 l1 x5_1).f0)) || (!(((rd_T77 l0 x5_1).f1) == ((rd_T77 l1 x5_1).f1)) || (!(((rd_T77 l0 x5_1).f2) == ((rd_T77 l1 x5_1).f2))))) = true
          ·rw [if_pos c7] at H; have c7b0 : (!(((rd_T77 l0 x5_1).f0) == ((rd_T77 l1 x5_1).f0)) || (!(((rd_T77 l0 x5_1).f1) == ((rd_T77 l1 x5_1).f1)) || (!(((rd_T77 l0 x5_1).f2) == ((rd_T77 l1 x5_1).f2))))) = true := c7; clear c7; obtain rfl := Option.some.inj H; have p334 : 0 ≤ (x5_1 : Int) := of_decide_eq_true z2_; have q334 : x5_1 < (l0.length : Int) := of_decide_eq_true z2_; obtain ⟨ad334, e334, hx334_0, hx334_1, hx334_2⟩ := at_T77 HR0.out x5_1 p334 q334; cases e334; replace p334 := eq_true p334; replace q334 := eq_true q334; have p335 : 0 ≤ (x5_1 : Int) := of_decide_eq_true z2_; have q335 : x5_1 < (l1.length : Int) := of_decide_eq_true z2_; obtain ⟨ad335, e335, hx335_0, hx335_1, hx335_2⟩ := at_T77 HR1.out x5_1 p335 q335; cases e335; replace p335 := eq_true p335; replace q335 := eq_true q335; go_wp2; (repeat (go_quiet (fail); try go_wp2)); go_ret; exact ⟨z5_, z10_⟩
          ·rw [if_neg c7] at H; (have c7b0 : (!(((rd_T77 l0 x5_1).f0) == ((rd_T77 l1 x5_1).f0)) || (!(((rd_T77 l0 x5_1).f1) == ((rd_T77 l1 x5_1).f1)) || (!(((rd_T77 l0 x5_1).f2) == ((rd_T77 l1 x5_1).f2))))) = false := by simpa using c7); clear c7; have H' := Aside0.mk H; clear H; have p334 : 0 ≤ (x5_1 : Int) := of_decide_eq_true z2_; have q334 : x5_1 < (l0.length : Int) := of_decide_eq_true z2_; obtain ⟨ad334, e334, hx334_0, hx334_1, hx334_2⟩ := at_T77 HR0.out x5_1 p334 q334; cases e334; replace p334 := eq_true p334; replace q334 := eq_true q334; have p335 : 0 ≤ (x5_1 : Int) := of_decide_eq_true z2_; have q335 : x5_1 < (l1.length : Int) := of_decide_eq_true z2_; obtain ⟨ad335, e335, hx335_0, hx335_1, hx335_2⟩ := at_T77 HR1.out x5_1 p335 q335; cases e335; replace p335 := eq_true p335; replace q335 := eq_true q335; go_wp2; (repeat (go_quiet (fail); try go_wp2)); go_roundg k1
           case measure => have := HK1.out; omega
           case rel => exact ⟨(wrap64 (x5_1 + 1)), z5_, H', ⟨z62_⟩, z10_⟩
         ·rw [if_neg c6] at H; exact absurd H (by simp)
        ·rw [if_neg c5] at H; exact absurd H (by simp)
       ·rw [if_neg c4] at H; have c4b0 : decide (x5_1 < (l0.length : Int)) = false := decide_eq_false c4; clear c4; obtain rfl := Option.some.inj H; go_wp2; (repeat (go_quiet (fail); try go_wp2)); go_ret; exact ⟨z5_, z10_⟩
  ·rw [if_neg c3] at H; have c3b0 : ((l0.length : Int) == (l1.length : Int)) = false := beq_eq_false_iff_ne.mpr c3; have c3b1 : ((l0.length : Int) != (l1.length : Int)) = true := bne_iff_ne.mpr c3; (have c3b2 : (l0.length == l1.length) = false := z65_); obtain rfl := Option.some.inj H; go_enter Tryd.func97, Tryd.ntmps97; go_wp2; (repeat (go_quiet (fail); try go_wp2)); go_ret; exact ⟨z5_, z10_⟩

/-! ### spec_SameDebts: function 48 -/
def spec_SameDebts.f (k : Nat) (l0 : List (S77)) (l1 : List (S77)) : Option (Bool) := (spec_l02Same.f k l0 l1).bind fun t336 => (some t336)
theorem spec_SameDebts.mono : ∀ a0 a1 k, LeO (spec_SameDebts.f k a0 a1) (spec_SameDebts.f (k + 1) a0 a1) := by
  intro a0 a1 k; unfold spec_SameDebts.f
  repeat' first
      | (with_reducible exact spec_l02Same.mono _ _ _)
      | (with_reducible exact LeO.refl _)
      | (with_reducible exact LeO.none _)
      | (with_reducible refine LeO.ite ?_ ?_)
      | (with_reducible refine LeO.bind ?_ (fun _ => ?_))
      | exact spec_l02Same.mono _ _ _
      | exact LeO.none _
      | refine LeO.ite ?_ ?_
      | refine LeO.bind ?_ (fun _ => ?_)
set_option maxHeartbeats 8000000 in
set_option maxRecDepth 100000 in
theorem spec_SameDebts.calls (k : Nat) (A0 : Option Addr) (c0 : Nat) (l0 : List (S77)) (A1 : Option Addr) (c1 : Nat) (l1 : List (S77)) (r : Bool) (w : World) (hr0 : Kd.C k77 w A0 l0.length l0) (hc0 : l0.length ≤ c0) (hr1 : Kd.C k77 w A1 l1.length l1) (hc1 : l1.length ≤ c1) (h : spec_SameDebts.f k l0 l1 = some r) :
    Calls Tryd.prog 48 #[.slice A0 l0.length c0, .slice A1 l1.length c1] w fun e w' => e = .returned (.bool r) ∧ Drawn0 w w' := by
  have HR0 := Aside0.mk hr0; have HC0 := Aside0.mk hc0; clear hr0 hc0; have HR1 := Aside0.mk hr1; have HC1 := Aside0.mk hc1; clear hr1 hc1; have H : ((spec_l02Same.f k l0 l1).bind fun t336 => (some t336)) = some r := h; clear h; replace H := Option.bind_eq_some_iff.mp H; obtain ⟨t336, A30, H⟩ := H; replace H : (some t336) = some r := H; have A3 := Aside0.mk A30; clear A30; obtain rfl := Option.some.inj H; go_enter Tryd.func48, Tryd.ntmps48; go_wp2_with (first | ((with_reducible refine gate_callee (f := 97) rfl ?_); refine goesL_ (some 7) rfl rfl Tryd.func97 z4_ rfl #[.slice A0 l0.length c0, .slice A1 l1.length c1] rfl z1_ ?_; (with_reducible refine (spec_l02Same.calls k _ _ l0 _ _ l1 t336 _ ?side1 ?side2 ?side3 ?side4 A3.out).mono ?_); (case side1 => repeat (first | exact HR0.out | (with_reducible refine Kd.C_alloc ?_ _) | (with_reducible refine Kd.C_drewN ?_ _) | (with_reducible refine Kd.C_drew ?_))); (case side2 => exact HC0.out); (case side3 => repeat (first | exact HR1.out | (with_reducible refine Kd.C_alloc ?_ _) | (with_reducible refine Kd.C_drewN ?_ _) | (with_reducible refine Kd.C_drew ?_))); (case side4 => exact HC1.out); rintro e w' ⟨rfl, ⟨nd, rfl⟩⟩; refine ⟨_, rfl, ?_⟩)); go_ret; exact ⟨z5_, z10_⟩

/-! ### impl_Debt: function 98 -/
def impl_Debt.l0 : Nat → List (S77) → List (S77) → Int → Int → Option (Bool)
  | 0, _, _, _, _ => none
  | k + 1, x0, x1, x12, x13 => if x13 < x12 then (if 0 ≤ x13 then (if x13 < (x0.length : Int) then (if x13 < (x1.length : Int) then (if (!(((rd_T77 x0 x13).f0) == ((rd_T77 x1 x13).f0)) || (!(((rd_T77 x0 x13).f1) == ((rd_T77 x1 x13).f1)) || (!(((rd_T77 x0 x13).f2) == ((rd_T77 x1 x13).f2))))) = true then (some false) else (impl_Debt.l0 k x0 x1 x12 (wrap64 (x13 + 1)))) else (none)) else (none)) else (none)) else (some true)
def impl_Debt.f (k : Nat) (l0 : List (S77)) (l1 : List (S77)) : Option (Bool) := if (l0.length : Int) = (l1.length : Int) then (impl_Debt.l0 k l0 l1 (l0.length : Int) 0) else (some false)
theorem impl_Debt.mono_l : ∀ k, (∀ y0 y1 y2 y3, LeO (impl_Debt.l0 k y0 y1 y2 y3) (impl_Debt.l0 (k + 1) y0 y1 y2 y3))
  | 0 => fun _ _ _ _ r h => by simp [impl_Debt.l0] at h
  | k + 1 => by
    have ih0 := impl_Debt.mono_l k
    · intro y0 y1 y2 y3
      unfold impl_Debt.l0
      repeat' first
      | (with_reducible exact ih0 _ _ _ _)
      | (with_reducible exact LeO.refl _)
      | (with_reducible exact LeO.none _)
      | (with_reducible refine LeO.ite ?_ ?_)
      | (with_reducible refine LeO.bind ?_ (fun _ => ?_))
      | exact ih0 _ _ _ _
      | exact LeO.none _
      | refine LeO.ite ?_ ?_
      | refine LeO.bind ?_ (fun _ => ?_)
theorem impl_Debt.mono : ∀ a0 a1 k, LeO (impl_Debt.f k a0 a1) (impl_Debt.f (k + 1) a0 a1) := by
  intro a0 a1 k; have ih0 := impl_Debt.mono_l k; unfold impl_Debt.f
  repeat' first
      | (with_reducible exact ih0 _ _ _ _)
      | (with_reducible exact LeO.refl _)
      | (with_reducible exact LeO.none _)
      | (with_reducible refine LeO.ite ?_ ?_)
      | (with_reducible refine LeO.bind ?_ (fun _ => ?_))
      | exact ih0 _ _ _ _
      | exact LeO.none _
      | refine LeO.ite ?_ ?_
      | refine LeO.bind ?_ (fun _ => ?_)
set_option maxHeartbeats 8000000 in
set_option maxRecDepth 100000 in
theorem impl_Debt.calls (k : Nat) (A0 : Option Addr) (c0 : Nat) (l0 : List (S77)) (A1 : Option Addr) (c1 : Nat) (l1 : List (S77)) (r : Bool) (w : World) (hr0 : Kd.C k77 w A0 l0.length l0) (hc0 : l0.length ≤ c0) (hr1 : Kd.C k77 w A1 l1.length l1) (hc1 : l1.length ≤ c1) (h : impl_Debt.f k l0 l1 = some r) :
    Calls Tryd.prog 98 #[.slice A0 l0.length c0, .slice A1 l1.length c1] w fun e w' => e = .returned (.bool r) ∧ Drawn0 w w' := by
  have hu77 := Tryd.underlying77; have HR0 := Aside0.mk hr0; have HC0 := Aside0.mk hc0; clear hr0 hc0; have HR1 := Aside0.mk hr1; have HC1 := Aside0.mk hc1; clear hr1 hc1; have H : (if (l0.length : Int) = (l1.length : Int) then (impl_Debt.l0 k l0 l1 (l0.length : Int) 0) else (some false)) = some r := h; clear h; by_cases c3 : (l0.length : Int) = (l1.length : Int)
  ·rw [if_pos c3] at H; have c3b0 : ((l0.length : Int) == (l1.length : Int)) = true := beq_iff_eq.mpr c3; have c3b1 : ((l0.length : Int) != (l1.length : Int)) = false := bne_eq_false_iff_eq.mpr c3; (have c3b2 : (l0.length == l1.length) = true := z65_); clear c3; have H' := Aside0.mk H; clear H; go_enter Tryd.func98, Tryd.ntmps98; go_wp2; (repeat (go_quiet (fail); try go_wp2)); go_loopg [13] k (fun kq v13 w' => ∃ (x13_1 : Int), v13 = .int .i64 x13_1 ∧ Aside0 (impl_Debt.l0 kq l0 l1 (l0.length : Int) x13_1 = some r) ∧ Aside0 (kq ≤ k) ∧ Drawn0 w w')
   case atStart => exact ⟨(0), z5_, H', ⟨Nat.le_refl _⟩, z10_⟩
   case round =>
     clear H'; (try clear c1); (try clear p2); (try clear c3); (try clear c3b0); (try clear c3b1); (try clear c3b2); obtain ⟨x13_1, rfl, HA, HK1, ⟨m1, rfl⟩⟩ := hrel
     cases gk with
     | zero => exact absurd HA.out (by simp [impl_Debt.l0])
     | succ k1 =>
       have H := HA.out; clear HA; simp only [impl_Debt.l0] at H; by_cases c4 : x13_1 < (l0.length : Int)
       ·rw [if_pos c4] at H; have c4b0 : decide (x13_1 < (l0.length : Int)) = true := decide_eq_true c4; clear c4; by_cases c5 : 0 ≤ x13_1
        ·rw [if_pos c5] at H; have c5b0 : decide (0 ≤ x13_1) = true := decide_eq_true c5; clear c5; by_cases c6 : x13_1 < (l0.length : Int)
         ·rw [if_pos c6] at H; have c6b0 : decide (x13_1 < (l0.length : Int)) = true := decide_eq_true c6; clear c6; by_cases c7 : x13_1 < (l1.length : Int)
          ·rw [if_pos c7] at H; have c7b0 : decide (x13_1 < (l1.length : Int)) = true := decide_eq_true c7; clear c7; by_cases c8 : (!(((rd_T77 l0 x13_1).f0) == ((rd_T77 l1 x13_1).f0)) || (!(((rd_T77 l0 x13_1).f1) == ((rd_T77 l1 x13_1).f1)) || (!(((rd_T77 l0 x13_1).f2) == ((rd_T77 l1 x13_1).f2))))) = true
           ·rw [if_pos c8] at H; have c8b0 : (!(((rd_T77 l0 x13_1).f0) == ((rd_T77 l1 x13_1).f0)) || (!(((rd_T77 l0 x13_1).f1) == ((rd_T77 l1 x13_1).f1)) || (!(((rd_T77 l0 x13_1).f2) == ((rd_T77 l1 x13_1).f2))))) = true := c8; clear c8; obtain rfl := Option.some.inj H; have p337 : 0 ≤ (x13_1 : Int) := of_decide_eq_true z2_; have q337 : x13_1 < (l0.length : Int) := of_decide_eq_true z2_; obtain ⟨ad337, e337, hx337_0, hx337_1, hx337_2⟩ := at_T77 HR0.out x13_1 p337 q337; cases e337; replace p337 := eq_true p337; replace q337 := eq_true q337; have p338 : 0 ≤ (x13_1 : Int) := of_decide_eq_true z2_; have q338 : x13_1 < (l1.length : Int) := of_decide_eq_true z2_; obtain ⟨ad338, e338, hx338_0, hx338_1, hx338_2⟩ := at_T77 HR1.out x13_1 p338 q338; cases e338; replace p338 := eq_true p338; replace q338 := eq_true q338; go_wp2; (repeat (go_quiet (fail); try go_wp2)); go_ret; exact ⟨z5_, z10_⟩
           ·rw [if_neg c8] at H; (have c8b0 : (!(((rd_T77 l0 x13_1).f0) == ((rd_T77 l1 x13_1).f0)) || (!(((rd_T77 l0 x13_1).f1) == ((rd_T77 l1 x13_1).f1)) || (!(((rd_T77 l0 x13_1).f2) == ((rd_T77 l1 x13_1).f2))))) = false := by simpa using c8); clear c8; have H' := Aside0.mk H; clear H; have p337 : 0 ≤ (x13_1 : Int) := of_decide_eq_true z2_; have q337 : x13_1 < (l0.length : Int) := of_decide_eq_true z2_; obtain ⟨ad337, e337, hx337_0, hx337_1, hx337_2⟩ := at_T77 HR0.out x13_1 p337 q337; cases e337; replace p337 := eq_true p337; replace q337 := eq_true q337; have p338 : 0 ≤ (x13_1 : Int) := of_decide_eq_true z2_; have q338 : x13_1 < (l1.length : Int) := of_decide_eq_true z2_; obtain ⟨ad338, e338, hx338_0, hx338_1, hx338_2⟩ := at_T77 HR1.out x13_1 p338 q338; cases e338; replace p338 := eq_true p338; replace q338 := eq_true q338; go_wp2; (repeat (go_quiet (fail); try go_wp2)); go_roundg k1
            case measure => have := HK1.out; omega
            case rel => exact ⟨(wrap64 (x13_1 + 1)), z5_, H', ⟨z62_⟩, z10_⟩
          ·rw [if_neg c7] at H; exact absurd H (by simp)
         ·rw [if_neg c6] at H; exact absurd H (by simp)
        ·rw [if_neg c5] at H; exact absurd H (by simp)
       ·rw [if_neg c4] at H; have c4b0 : decide (x13_1 < (l0.length : Int)) = false := decide_eq_false c4; clear c4; obtain rfl := Option.some.inj H; go_wp2; (repeat (go_quiet (fail); try go_wp2)); go_ret; exact ⟨z5_, z10_⟩
  ·rw [if_neg c3] at H; have c3b0 : ((l0.length : Int) == (l1.length : Int)) = false := beq_eq_false_iff_ne.mpr c3; have c3b1 : ((l0.length : Int) != (l1.length : Int)) = true := bne_iff_ne.mpr c3; (have c3b2 : (l0.length == l1.length) = false := z65_); obtain rfl := Option.some.inj H; go_enter Tryd.func98, Tryd.ntmps98; go_wp2; (repeat (go_quiet (fail); try go_wp2)); go_ret; exact ⟨z5_, z10_⟩

/-! ### impl_SameDebts: function 49 -/
def impl_SameDebts.f (k : Nat) (l0 : List (S77)) (l1 : List (S77)) : Option (Bool) := (impl_Debt.f k l0 l1).bind fun t339 => (some t339)
theorem impl_SameDebts.mono : ∀ a0 a1 k, LeO (impl_SameDebts.f k a0 a1) (impl_SameDebts.f (k + 1) a0 a1) := by
  intro a0 a1 k; unfold impl_SameDebts.f
  repeat' first
      | (with_reducible exact impl_Debt.mono _ _ _)
      | (with_reducible exact LeO.refl _)
      | (with_reducible exact LeO.none _)
      | (with_reducible refine LeO.ite ?_ ?_)
      | (with_reducible refine LeO.bind ?_ (fun _ => ?_))
      | exact impl_Debt.mono _ _ _
      | exact LeO.none _
      | refine LeO.ite ?_ ?_
      | refine LeO.bind ?_ (fun _ => ?_)
set_option maxHeartbeats 8000000 in
set_option maxRecDepth 100000 in
theorem impl_SameDebts.calls (k : Nat) (A0 : Option Addr) (c0 : Nat) (l0 : List (S77)) (A1 : Option Addr) (c1 : Nat) (l1 : List (S77)) (r : Bool) (w : World) (hr0 : Kd.C k77 w A0 l0.length l0) (hc0 : l0.length ≤ c0) (hr1 : Kd.C k77 w A1 l1.length l1) (hc1 : l1.length ≤ c1) (h : impl_SameDebts.f k l0 l1 = some r) :
    Calls Tryd.prog 49 #[.slice A0 l0.length c0, .slice A1 l1.length c1] w fun e w' => e = .returned (.bool r) ∧ Drawn0 w w' := by
  have HR0 := Aside0.mk hr0; have HC0 := Aside0.mk hc0; clear hr0 hc0; have HR1 := Aside0.mk hr1; have HC1 := Aside0.mk hc1; clear hr1 hc1; have H : ((impl_Debt.f k l0 l1).bind fun t339 => (some t339)) = some r := h; clear h; replace H := Option.bind_eq_some_iff.mp H; obtain ⟨t339, A30, H⟩ := H; replace H : (some t339) = some r := H; have A3 := Aside0.mk A30; clear A30; obtain rfl := Option.some.inj H; go_enter Tryd.func49, Tryd.ntmps49; go_wp2_with (first | ((with_reducible refine gate_callee (f := 98) rfl ?_); refine goesL_ (some 7) rfl rfl Tryd.func98 z4_ rfl #[.slice A0 l0.length c0, .slice A1 l1.length c1] rfl z1_ ?_; (with_reducible refine (impl_Debt.calls k _ _ l0 _ _ l1 t339 _ ?side1 ?side2 ?side3 ?side4 A3.out).mono ?_); (case side1 => repeat (first | exact HR0.out | (with_reducible refine Kd.C_alloc ?_ _) | (with_reducible refine Kd.C_drewN ?_ _) | (with_reducible refine Kd.C_drew ?_))); (case side2 => exact HC0.out); (case side3 => repeat (first | exact HR1.out | (with_reducible refine Kd.C_alloc ?_ _) | (with_reducible refine Kd.C_drewN ?_ _) | (with_reducible refine Kd.C_drew ?_))); (case side4 => exact HC1.out); rintro e w' ⟨rfl, ⟨nd, rfl⟩⟩; refine ⟨_, rfl, ?_⟩)); go_ret; exact ⟨z5_, z10_⟩

/-! ### impl_SumOfDebts: function 51 -/
def impl_SumOfDebts.l0 : Nat → Int → List (S77) → Int → Int → Option (Int × Int)
  | 0, _, _, _, _ => none
  | k + 1, x6, x13, x14, x15 => if x15 < x14 then (if 0 ≤ x15 then (if x15 < (x13.length : Int) then (impl_SumOfDebts.l0 k (wrap64 (x6 + ((rd_T77 x13 x15).f2))) x13 x14 (wrap64 (x15 + 1))) else (none)) else (none)) else (some (x6, 0))
def impl_SumOfDebts.f (k : Nat) (a0 : Int) (l1 : List (S77)) : Option (Int × Int) := (impl_ValidDebts.f k a0 l1).bind fun t340 => (if t340 = true then (impl_SumOfDebts.l0 k 0 l1 (l1.length : Int) 0) else (some (0, 1)))
theorem impl_SumOfDebts.mono_l : ∀ k, (∀ y0 y1 y2 y3, LeO (impl_SumOfDebts.l0 k y0 y1 y2 y3) (impl_SumOfDebts.l0 (k + 1) y0 y1 y2 y3))
  | 0 => fun _ _ _ _ r h => by simp [impl_SumOfDebts.l0] at h
  | k + 1 => by
    have ih0 := impl_SumOfDebts.mono_l k
    · intro y0 y1 y2 y3
      unfold impl_SumOfDebts.l0
      repeat' first
      | (with_reducible exact ih0 _ _ _ _)
      | (with_reducible exact impl_ValidDebts.mono _ _ _)
      | (with_reducible exact LeO.refl _)
      | (with_reducible exact LeO.none _)
      | (with_reducible refine LeO.ite ?_ ?_)
      | (with_reducible refine LeO.bind ?_ (fun _ => ?_))
      | exact ih0 _ _ _ _
      | exact impl_ValidDebts.mono _ _ _
      | exact LeO.none _
      | refine LeO.ite ?_ ?_
      | refine LeO.bind ?_ (fun _ => ?_)
theorem impl_SumOfDebts.mono : ∀ a0 a1 k, LeO (impl_SumOfDebts.f k a0 a1) (impl_SumOfDebts.f (k + 1) a0 a1) := by
  intro a0 a1 k; have ih0 := impl_SumOfDebts.mono_l k; unfold impl_SumOfDebts.f
  repeat' first
      | (with_reducible exact ih0 _ _ _ _)
      | (with_reducible exact impl_ValidDebts.mono _ _ _)
      | (with_reducible exact LeO.refl _)
      | (with_reducible exact LeO.none _)
      | (with_reducible refine LeO.ite ?_ ?_)
      | (with_reducible refine LeO.bind ?_ (fun _ => ?_))
      | exact ih0 _ _ _ _
      | exact impl_ValidDebts.mono _ _ _
      | exact LeO.none _
      | refine LeO.ite ?_ ?_
      | refine LeO.bind ?_ (fun _ => ?_)
set_option maxHeartbeats 8000000 in
set_option maxRecDepth 100000 in
theorem impl_SumOfDebts.calls (k : Nat) (a0 : Int) (A1 : Option Addr) (c1 : Nat) (l1 : List (S77)) (r1 : Int) (r2 : Int) (w : World) (hr1 : Kd.C k77 w A1 l1.length l1) (hc1 : l1.length ≤ c1) (h : impl_SumOfDebts.f k a0 l1 = some (r1, r2)) :
    Calls Tryd.prog 51 #[.int .i64 a0, .slice A1 l1.length c1] w fun e w' => e = .returned (.tuple #[.int .i64 r1, .int .i64 r2]) ∧ Below w.heap.size w w' := by
  have hu77 := Tryd.underlying77; have HR1 := Aside0.mk hr1; have HC1 := Aside0.mk hc1; clear hr1 hc1; have HB := Aside0.mk (Below.refl w.heap.size w); have H : ((impl_ValidDebts.f k a0 l1).bind fun t340 => (if t340 = true then (impl_SumOfDebts.l0 k 0 l1 (l1.length : Int) 0) else (some (0, 1)))) = some (r1, r2) := h; clear h; replace H := Option.bind_eq_some_iff.mp H; obtain ⟨t340, A30, H⟩ := H; replace H : (if t340 = true then (impl_SumOfDebts.l0 k 0 l1 (l1.length : Int) 0) else (some (0, 1))) = some (r1, r2) := H; have A3 := Aside0.mk A30; clear A30; by_cases c4 : t340 = true
  ·subst c4; (have H1 : (impl_SumOfDebts.l0 k 0 l1 (l1.length : Int) 0) = some (r1, r2) := z39_); clear H; have H := H1; clear H1; have H' := Aside0.mk H; clear H; go_enter Tryd.func51, Tryd.ntmps51; go_wp2_with (first | ((with_reducible refine gate_callee (f := 50) rfl ?_); refine goesL_ (some 11) rfl rfl Tryd.func50 z4_ rfl #[.int .i64 a0, .slice A1 l1.length c1] rfl z1_ ?_; (with_reducible refine (impl_ValidDebts.calls k a0 _ _ l1 true _ ?side1 ?side2 A3.out).mono ?_); (case side1 => repeat (first | exact HR1.out | (with_reducible refine Kd.C_alloc ?_ _) | (with_reducible refine Kd.C_drewN ?_ _) | (with_reducible refine Kd.C_drew ?_))); (case side2 => exact HC1.out); rintro e w5 ⟨rfl, hb⟩; refine ⟨_, rfl, ?_⟩; have n0_ := Aside0.mk (below_step z0_ hb); clear HB; have HB := n0_; clear n0_; (try clear hb); (try clear hb2); (try clear hk); (try clear hi))); go_loopg [6, 15] k (fun kq v6 v15 w' => ∃ (x6_1 : Int) (x15_1 : Int), v6 = .int .i64 x6_1 ∧ v15 = .int .i64 x15_1 ∧ Aside0 (impl_SumOfDebts.l0 kq x6_1 l1 (l1.length : Int) x15_1 = some (r1, r2)) ∧ Aside0 (kq ≤ k) ∧ Aside0 (Below w.heap.size w w'))
   case atStart => exact ⟨(0), (0), z5_, z5_, H', ⟨Nat.le_refl _⟩, ⟨z0_⟩⟩
   case round =>
     clear H'; (try clear c1); (try clear p2); (try clear c4); (try clear c5); obtain ⟨x6_1, x15_1, rfl, rfl, HA, HK1, HB⟩ := hrel
     cases gk with
     | zero => exact absurd HA.out (by simp [impl_SumOfDebts.l0])
     | succ k1 =>
       have H := HA.out; clear HA; simp only [impl_SumOfDebts.l0] at H; by_cases c6 : x15_1 < (l1.length : Int)
       ·rw [if_pos c6] at H; have c6b0 : decide (x15_1 < (l1.length : Int)) = true := decide_eq_true c6; clear c6; by_cases c7 : 0 ≤ x15_1
        ·rw [if_pos c7] at H; have c7b0 : decide (0 ≤ x15_1) = true := decide_eq_true c7; clear c7; by_cases c8 : x15_1 < (l1.length : Int)
         ·rw [if_pos c8] at H; have c8b0 : decide (x15_1 < (l1.length : Int)) = true := decide_eq_true c8; clear c8; have H' := Aside0.mk H; clear H; have p341 : 0 ≤ (x15_1 : Int) := of_decide_eq_true z2_; have q341 : x15_1 < (l1.length : Int) := of_decide_eq_true z2_; obtain ⟨ad341, e341, hx341_0, hx341_1, hx341_2⟩ := at_T77 HR1.out x15_1 p341 q341; cases e341; replace hx341_0 := (HB.out.cell (World.block_lt_of_cell? w _ hx341_0)).trans hx341_0; replace hx341_1 := (HB.out.cell (World.block_lt_of_cell? w _ hx341_1)).trans hx341_1; replace hx341_2 := (HB.out.cell (World.block_lt_of_cell? w _ hx341_2)).trans hx341_2; replace p341 := eq_true p341; replace q341 := eq_true q341; go_wp2_with (first | ((with_reducible refine gate_dst (N := 8) rfl ?_); refine box_event ?hg (N := 8) ?hd (cs := #[.int .i64 0, .int .i64 0, .int .i64 0]) (t := 77) ?hr ?_; (case hd => rfl); (case hg => rfl); (case hr => first | (go_simp; done) | (go_simp; rfl)); intro gb342 hg w9 hbox hb; have n0_ := Aside0.mk (below_step z0_ hb); have n1_ := Aside0.mk (hbox); have n2_ := Aside0.mk ((by rw [hg]; exact (below_size z0_) : w.heap.size ≤ gb342)); have n3_ := Aside0.mk ((by rw [hg]; exact (below_size z0_) : w.heap.size ≤ gb342)); clear HB; have HB := n0_; have BK342 := n1_; have GW342 := n2_; have GE342 := n3_; clear n0_ n1_ n2_ n3_; clear hb hbox hg; have hcz10_0 : w9.cell? ⟨gb342, 0, none⟩ = some (.int .i64 0) := (blk_cell BK342.out 0).trans rfl; have hcz10_1 : w9.cell? ⟨gb342, 1, none⟩ = some (.int .i64 0) := (blk_cell BK342.out 1).trans rfl; have hcz10_2 : w9.cell? ⟨gb342, 2, none⟩ = some (.int .i64 0) := (blk_cell BK342.out 2).trans rfl; have hfz10_0 := blk_frozen BK342.out 0; have hfz10_1 := blk_frozen BK342.out 1; have hfz10_2 := blk_frozen BK342.out 2)); go_roundg k1
          case measure => have := HK1.out; omega
          case rel => exact ⟨(wrap64 (x6_1 + ((rd_T77 l1 x15_1).f2))), (wrap64 (x15_1 + 1)), z5_, z5_, H', ⟨z62_⟩, ⟨by repeat (first | (with_reducible first | exact HB.out | apply below_alloc | apply pw_below_drewN | apply below_drew1 | refine below_set ?_ GE342.out) | exact HB.out)⟩⟩
         ·rw [if_neg c8] at H; exact absurd H (by simp)
        ·rw [if_neg c7] at H; exact absurd H (by simp)
       ·rw [if_neg c6] at H; have c6b0 : decide (x15_1 < (l1.length : Int)) = false := decide_eq_false c6; clear c6; simp only [Option.some.injEq, Prod.mk.injEq] at H; obtain ⟨rfl, rfl⟩ := H; go_wp2; go_ret2; exact ⟨z3_, z0_⟩
  ·replace c4 := Bool.eq_false_iff.mpr c4; subst c4; (have H1 : (some (0, 1)) = some (r1, r2) := z17_); clear H; have H := H1; clear H1; simp only [Option.some.injEq, Prod.mk.injEq] at H; obtain ⟨rfl, rfl⟩ := H; go_enter Tryd.func51, Tryd.ntmps51; go_wp2_with (first | ((with_reducible refine gate_callee (f := 50) rfl ?_); refine goesL_ (some 11) rfl rfl Tryd.func50 z4_ rfl #[.int .i64 a0, .slice A1 l1.length c1] rfl z1_ ?_; (with_reducible refine (impl_ValidDebts.calls k a0 _ _ l1 false _ ?side1 ?side2 A3.out).mono ?_); (case side1 => repeat (first | exact HR1.out | (with_reducible refine Kd.C_alloc ?_ _) | (with_reducible refine Kd.C_drewN ?_ _) | (with_reducible refine Kd.C_drew ?_))); (case side2 => exact HC1.out); rintro e w11 ⟨rfl, hb⟩; refine ⟨_, rfl, ?_⟩; have n0_ := Aside0.mk (below_step z0_ hb); clear HB; have HB := n0_; clear n0_; (try clear hb); (try clear hb2); (try clear hk); (try clear hi))); go_ret2; exact ⟨z3_, z0_⟩

/-! ### impl_arePeople: function 121 -/
def impl_arePeople.l0 : Nat → Int → List Int → Int → Int → Option (Bool)
  | 0, _, _, _, _ => none
  | k + 1, x0, x7, x8, x9 => if x9 < x8 then (if 0 ≤ x9 then (if x9 < (x7.length : Int) then (if (rd x7 x9) < 0 then (some false) else (if (rd x7 x9) ≥ x0 then (some false) else (impl_arePeople.l0 k x0 x7 x8 (wrap64 (x9 + 1))))) else (none)) else (none)) else (some true)
def impl_arePeople.f (k : Nat) (a0 : Int) (l1 : List Int) : Option (Bool) := impl_arePeople.l0 k a0 l1 (l1.length : Int) 0
theorem impl_arePeople.mono_l : ∀ k, (∀ y0 y1 y2 y3, LeO (impl_arePeople.l0 k y0 y1 y2 y3) (impl_arePeople.l0 (k + 1) y0 y1 y2 y3))
  | 0 => fun _ _ _ _ r h => by simp [impl_arePeople.l0] at h
  | k + 1 => by
    have ih0 := impl_arePeople.mono_l k
    · intro y0 y1 y2 y3
      unfold impl_arePeople.l0
      repeat' first
      | (with_reducible exact ih0 _ _ _ _)
      | (with_reducible exact LeO.refl _)
      | (with_reducible exact LeO.none _)
      | (with_reducible refine LeO.ite ?_ ?_)
      | (with_reducible refine LeO.bind ?_ (fun _ => ?_))
      | exact ih0 _ _ _ _
      | exact LeO.none _
      | refine LeO.ite ?_ ?_
      | refine LeO.bind ?_ (fun _ => ?_)
theorem impl_arePeople.mono : ∀ a0 a1 k, LeO (impl_arePeople.f k a0 a1) (impl_arePeople.f (k + 1) a0 a1) := by
  intro a0 a1 k; have ih0 := impl_arePeople.mono_l k; unfold impl_arePeople.f
  repeat' first
      | (with_reducible exact ih0 _ _ _ _)
      | (with_reducible exact LeO.refl _)
      | (with_reducible exact LeO.none _)
      | (with_reducible refine LeO.ite ?_ ?_)
      | (with_reducible refine LeO.bind ?_ (fun _ => ?_))
      | exact ih0 _ _ _ _
      | exact LeO.none _
      | refine LeO.ite ?_ ?_
      | refine LeO.bind ?_ (fun _ => ?_)
set_option maxHeartbeats 8000000 in
set_option maxRecDepth 100000 in
theorem impl_arePeople.calls (k : Nat) (a0 : Int) (A1 : Option Addr) (c1 : Nat) (l1 : List Int) (r : Bool) (w : World) (hr1 : Kd.C (Kd.int .i64) w A1 l1.length l1) (hc1 : l1.length ≤ c1) (h : impl_arePeople.f k a0 l1 = some r) :
    Calls Tryd.prog 121 #[.int .i64 a0, .slice A1 l1.length c1] w fun e w' => e = .returned (.bool r) ∧ Drawn0 w w' := by
  have HR1 := Aside0.mk hr1; have HC1 := Aside0.mk hc1; clear hr1 hc1; have H : (impl_arePeople.l0 k a0 l1 (l1.length : Int) 0) = some r := h; clear h; have H' := Aside0.mk H; clear H; go_enter Tryd.func121, Tryd.ntmps121; go_wp2; go_loopg [9] k (fun kq v9 w' => ∃ (x9_1 : Int), v9 = .int .i64 x9_1 ∧ Aside0 (impl_arePeople.l0 kq a0 l1 (l1.length : Int) x9_1 = some r) ∧ Aside0 (kq ≤ k) ∧ Drawn0 w w')
  case atStart => exact ⟨(0), z5_, H', ⟨Nat.le_refl _⟩, z10_⟩
  case round =>
    clear H'; (try clear c1); (try clear p2); obtain ⟨x9_1, rfl, HA, HK1, ⟨m1, rfl⟩⟩ := hrel
    cases gk with
    | zero => exact absurd HA.out (by simp [impl_arePeople.l0])
    | succ k1 =>
      have H := HA.out; clear HA; simp only [impl_arePeople.l0] at H; by_cases c3 : x9_1 < (l1.length : Int)
      ·rw [if_pos c3] at H; have c3b0 : decide (x9_1 < (l1.length : Int)) = true := decide_eq_true c3; clear c3; by_cases c4 : 0 ≤ x9_1
       ·rw [if_pos c4] at H; have c4b0 : decide (0 ≤ x9_1) = true := decide_eq_true c4; clear c4; by_cases c5 : x9_1 < (l1.length : Int)
        ·rw [if_pos c5] at H; have c5b0 : decide (x9_1 < (l1.length : Int)) = true := decide_eq_true c5; clear c5; by_cases c6 : (rd l1 x9_1) < 0
         ·rw [if_pos c6] at H; have c6b0 : decide ((rd l1 x9_1) < 0) = true := decide_eq_true c6; clear c6; obtain rfl := Option.some.inj H; have p343 : 0 ≤ (x9_1 : Int) := of_decide_eq_true z2_; have q343 : x9_1 < (l1.length : Int) := of_decide_eq_true z2_; obtain ⟨ad343, e343, hx343_0⟩ := Kd.at_int HR1.out x9_1 p343 q343; cases e343; replace p343 := eq_true p343; replace q343 := eq_true q343; go_wp2; go_ret; exact ⟨z5_, z10_⟩
         ·rw [if_neg c6] at H; have c6b0 : decide ((rd l1 x9_1) < 0) = false := decide_eq_false c6; clear c6; by_cases c7 : (rd l1 x9_1) ≥ a0
          ·rw [if_pos c7] at H; have c7b0 : decide (a0 ≤ (rd l1 x9_1)) = true := decide_eq_true c7; clear c7; obtain rfl := Option.some.inj H; have p343 : 0 ≤ (x9_1 : Int) := of_decide_eq_true z2_; have q343 : x9_1 < (l1.length : Int) := of_decide_eq_true z2_; obtain ⟨ad343, e343, hx343_0⟩ := Kd.at_int HR1.out x9_1 p343 q343; cases e343; replace p343 := eq_true p343; replace q343 := eq_true q343; go_wp2; go_ret; exact ⟨z5_, z10_⟩
          ·rw [if_neg c7] at H; have c7b0 : decide (a0 ≤ (rd l1 x9_1)) = false := decide_eq_false c7; clear c7; have H' := Aside0.mk H; clear H; have p343 : 0 ≤ (x9_1 : Int) := of_decide_eq_true z2_; have q343 : x9_1 < (l1.length : Int) := of_decide_eq_true z2_; obtain ⟨ad343, e343, hx343_0⟩ := Kd.at_int HR1.out x9_1 p343 q343; cases e343; replace p343 := eq_true p343; replace q343 := eq_true q343; go_wp2; go_roundg k1
           case measure => have := HK1.out; omega
           case rel => exact ⟨(wrap64 (x9_1 + 1)), z5_, H', ⟨z62_⟩, z10_⟩
        ·rw [if_neg c5] at H; exact absurd H (by simp)
       ·rw [if_neg c4] at H; exact absurd H (by simp)
      ·rw [if_neg c3] at H; have c3b0 : decide (x9_1 < (l1.length : Int)) = false := decide_eq_false c3; clear c3; obtain rfl := Option.some.inj H; go_wp2; go_ret; exact ⟨z5_, z10_⟩

/-! ### impl_debtsCode: function 99 -/
def impl_debtsCode.f (k : Nat) (a0 : Int) (l1 : List (S77)) (l2 : List Int) : Option (Int) := (impl_ValidDebts.f k a0 l1).bind fun t344 => (if t344 = true then ((impl_arePeople.f k a0 l2).bind fun t345 => (if t345 = true then (some 0) else (some 2))) else (some 1))
theorem impl_debtsCode.mono : ∀ a0 a1 a2 k, LeO (impl_debtsCode.f k a0 a1 a2) (impl_debtsCode.f (k + 1) a0 a1 a2) := by
  intro a0 a1 a2 k; unfold impl_debtsCode.f
  repeat' first
      | (with_reducible exact impl_ValidDebts.mono _ _ _)
      | (with_reducible exact impl_arePeople.mono _ _ _)
      | (with_reducible exact LeO.refl _)
      | (with_reducible exact LeO.none _)
      | (with_reducible refine LeO.ite ?_ ?_)
      | (with_reducible refine LeO.bind ?_ (fun _ => ?_))
      | exact impl_ValidDebts.mono _ _ _
      | exact impl_arePeople.mono _ _ _
      | exact LeO.none _
      | refine LeO.ite ?_ ?_
      | refine LeO.bind ?_ (fun _ => ?_)
set_option maxHeartbeats 8000000 in
set_option maxRecDepth 100000 in
theorem impl_debtsCode.calls (k : Nat) (a0 : Int) (A1 : Option Addr) (c1 : Nat) (l1 : List (S77)) (A2 : Option Addr) (c2 : Nat) (l2 : List Int) (r : Int) (w : World) (hr1 : Kd.C k77 w A1 l1.length l1) (hc1 : l1.length ≤ c1) (hr2 : Kd.C (Kd.int .i64) w A2 l2.length l2) (hc2 : l2.length ≤ c2) (h : impl_debtsCode.f k a0 l1 l2 = some r) :
    Calls Tryd.prog 99 #[.int .i64 a0, .slice A1 l1.length c1, .slice A2 l2.length c2] w fun e w' => e = .returned (.int .i64 r) ∧ Below w.heap.size w w' := by
  have HR1 := Aside0.mk hr1; have HC1 := Aside0.mk hc1; clear hr1 hc1; have HR2 := Aside0.mk hr2; have HC2 := Aside0.mk hc2; clear hr2 hc2; have HB := Aside0.mk (Below.refl w.heap.size w); have H : ((impl_ValidDebts.f k a0 l1).bind fun t344 => (if t344 = true then ((impl_arePeople.f k a0 l2).bind fun t345 => (if t345 = true then (some 0) else (some 2))) else (some 1))) = some r := h; clear h; replace H := Option.bind_eq_some_iff.mp H; obtain ⟨t344, A40, H⟩ := H; replace H : (if t344 = true then ((impl_arePeople.f k a0 l2).bind fun t345 => (if t345 = true then (some 0) else (some 2))) else (some 1)) = some r := H; have A4 := Aside0.mk A40; clear A40; by_cases c5 : t344 = true
  ·subst c5; (have H1 : ((impl_arePeople.f k a0 l2).bind fun t345 => (if t345 = true then (some 0) else (some 2))) = some r := z39_); clear H; have H := H1; clear H1; replace H := Option.bind_eq_some_iff.mp H; obtain ⟨t345, A60, H⟩ := H; replace H : (if t345 = true then (some 0) else (some 2)) = some r := H; have A6 := Aside0.mk A60; clear A60; by_cases c7 : t345 = true
   ·subst c7; (have H1 : (some 0) = some r := z39_); clear H; have H := H1; clear H1; obtain rfl := Option.some.inj H; go_enter Tryd.func99, Tryd.ntmps99; go_wp2_with (first | ((with_reducible refine gate_callee (f := 50) rfl ?_); refine goesL_ (some 10) rfl rfl Tryd.func50 z4_ rfl #[.int .i64 a0, .slice A1 l1.length c1] rfl z1_ ?_; (with_reducible refine (impl_ValidDebts.calls k a0 _ _ l1 true _ ?side1 ?side2 A4.out).mono ?_); (case side1 => repeat (first | exact HR1.out | (with_reducible refine Kd.C_alloc ?_ _) | (with_reducible refine Kd.C_drewN ?_ _) | (with_reducible refine Kd.C_drew ?_))); (case side2 => exact HC1.out); rintro e w8 ⟨rfl, hb⟩; refine ⟨_, rfl, ?_⟩; have n0_ := Aside0.mk (below_step z0_ hb); clear HB; have HB := n0_; clear n0_; (try clear hb); (try clear hb2); (try clear hk); (try clear hi)) | ((with_reducible refine gate_callee (f := 121) rfl ?_); refine goesL_ (some 15) rfl rfl Tryd.func121 z4_ rfl #[.int .i64 a0, .slice A2 l2.length c2] rfl z1_ ?_; (with_reducible refine (impl_arePeople.calls k a0 _ _ l2 true _ ?side1 ?side2 A6.out).mono ?_); (case side1 => repeat (first | exact (Kd.C_below HR2.out HB.out) | (with_reducible refine Kd.C_alloc ?_ _) | (with_reducible refine Kd.C_drewN ?_ _) | (with_reducible refine Kd.C_drew ?_))); (case side2 => exact HC2.out); rintro e w' ⟨rfl, ⟨nd, rfl⟩⟩; refine ⟨_, rfl, ?_⟩)); go_ret; exact ⟨z3_, z0_⟩
   ·replace c7 := Bool.eq_false_iff.mpr c7; subst c7; (have H1 : (some 2) = some r := z17_); clear H; have H := H1; clear H1; obtain rfl := Option.some.inj H; go_enter Tryd.func99, Tryd.ntmps99; go_wp2_with (first | ((with_reducible refine gate_callee (f := 50) rfl ?_); refine goesL_ (some 10) rfl rfl Tryd.func50 z4_ rfl #[.int .i64 a0, .slice A1 l1.length c1] rfl z1_ ?_; (with_reducible refine (impl_ValidDebts.calls k a0 _ _ l1 true _ ?side1 ?side2 A4.out).mono ?_); (case side1 => repeat (first | exact HR1.out | (with_reducible refine Kd.C_alloc ?_ _) | (with_reducible refine Kd.C_drewN ?_ _) | (with_reducible refine Kd.C_drew ?_))); (case side2 => exact HC1.out); rintro e w9 ⟨rfl, hb⟩; refine ⟨_, rfl, ?_⟩; have n0_ := Aside0.mk (below_step z0_ hb); clear HB; have HB := n0_; clear n0_; (try clear hb); (try clear hb2); (try clear hk); (try clear hi)) | ((with_reducible refine gate_callee (f := 121) rfl ?_); refine goesL_ (some 15) rfl rfl Tryd.func121 z4_ rfl #[.int .i64 a0, .slice A2 l2.length c2] rfl z1_ ?_; (with_reducible refine (impl_arePeople.calls k a0 _ _ l2 false _ ?side1 ?side2 A6.out).mono ?_); (case side1 => repeat (first | exact (Kd.C_below HR2.out HB.out) | (with_reducible refine Kd.C_alloc ?_ _) | (with_reducible refine Kd.C_drewN ?_ _) | (with_reducible refine Kd.C_drew ?_))); (case side2 => exact HC2.out); rintro e w' ⟨rfl, ⟨nd, rfl⟩⟩; refine ⟨_, rfl, ?_⟩)); go_ret; exact ⟨z3_, z0_⟩
  ·replace c5 := Bool.eq_false_iff.mpr c5; subst c5; (have H1 : (some 1) = some r := z17_); clear H; have H := H1; clear H1; obtain rfl := Option.some.inj H; go_enter Tryd.func99, Tryd.ntmps99; go_wp2_with (first | ((with_reducible refine gate_callee (f := 50) rfl ?_); refine goesL_ (some 10) rfl rfl Tryd.func50 z4_ rfl #[.int .i64 a0, .slice A1 l1.length c1] rfl z1_ ?_; (with_reducible refine (impl_ValidDebts.calls k a0 _ _ l1 false _ ?side1 ?side2 A4.out).mono ?_); (case side1 => repeat (first | exact HR1.out | (with_reducible refine Kd.C_alloc ?_ _) | (with_reducible refine Kd.C_drewN ?_ _) | (with_reducible refine Kd.C_drew ?_))); (case side2 => exact HC1.out); rintro e w10 ⟨rfl, hb⟩; refine ⟨_, rfl, ?_⟩; have n0_ := Aside0.mk (below_step z0_ hb); clear HB; have HB := n0_; clear n0_; (try clear hb); (try clear hb2); (try clear hk); (try clear hi))); go_ret; exact ⟨z3_, z0_⟩

end Go.Proofs.YtfjmljgbdejghaaDoor.MNets
