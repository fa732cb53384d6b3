-- by a program of this session, for this claim
import Derived.Test.YtofcgkcpkngocaaMPaidx0
import Derived.Test.YtofcgkcpkngocaaMPaidx1
import Derived.Test.YtofcgkcpkngocaaMPaidx3
namespace Go.Proofs.Ytofcgkcpkngocaa.MPaid
open Go.RowKit Go.Proofs.YtofcgkcpkngocaaW.PrintWords Go.Proofs.YtofcgkcpkngocaaW.PrintLast Go.Proofs.YtofcgkcpkngocaaW.PrintMore
attribute [local go_sem] max2_int min2_int max_two min_two max_three min_three max_four min_four   -- for this text's walks alone
set_option linter.unusedVariables false
set_option linter.unusedSimpArgs false

attribute [local go_sem high] eqA65
/-! ### spec_l02Same: function 82 -/
def spec_l02Same.l0 : Nat → List (S65) → List (S65) → Int → Option (Bool)
  | 0, _, _, _ => none
  | k + 1, x0, x1, x5 => if x5 < (x0.length : Int) then (if 0 ≤ x5 then (if x5 < (x1.length : Int) then (if (!(((rd_T65 x0 x5).f0) == ((rd_T65 x1 x5).f0)) || (!(((rd_T65 x0 x5).f1) == ((rd_T65 x1 x5).f1)) || (!(((rd_T65 x0 x5).f2) == ((rd_T65 x1 x5).f2))))) = true then (some false) else (spec_l02Same.l0 k x0 x1 (wrap64 (x5 + 1)))) else (none)) else (none)) else (some true)
def spec_l02Same.f (k : Nat) (l0 : List (S65)) (l1 : List (S65)) : Option (Bool) := if (l0.length : Int) = (l1.length : Int) then (spec_l02Same.l0 k l0 l1 0) else (some false)
theorem spec_l02Same.mono_l : ∀ k, (∀ y0 y1 y2, LeO (spec_l02Same.l0 k y0 y1 y2) (spec_l02Same.l0 (k + 1) y0 y1 y2))
  | 0 => fun _ _ _ r h => by simp [spec_l02Same.l0] at h
  | k + 1 => by
    have ih0 := spec_l02Same.mono_l k
    · intro y0 y1 y2
      unfold spec_l02Same.l0
      repeat' first
      | (with_reducible exact ih0 _ _ _)
      | (with_reducible exact LeO.refl _)
      | (with_reducible exact LeO.none _)
      | (with_reducible refine LeO.ite ?_ ?_)
      | (with_reducible refine LeO.bind ?_ (fun _ => ?_))
      | exact ih0 _ _ _
      | exact LeO.none _
      | refine LeO.ite ?_ ?_
      | refine LeO.bind ?_ (fun _ => ?_)
theorem spec_l02Same.mono : ∀ a0 a1 k, LeO (spec_l02Same.f k a0 a1) (spec_l02Same.f (k + 1) a0 a1) := by
  intro a0 a1 k; have ih0 := spec_l02Same.mono_l k; unfold spec_l02Same.f
  repeat' first
      | (with_reducible exact ih0 _ _ _)
      | (with_reducible exact LeO.refl _)
      | (with_reducible exact LeO.none _)
      | (with_reducible refine LeO.ite ?_ ?_)
      | (with_reducible refine LeO.bind ?_ (fun _ => ?_))
      | exact ih0 _ _ _
      | exact LeO.none _
      | refine LeO.ite ?_ ?_
      | refine LeO.bind ?_ (fun _ => ?_)
set_option maxHeartbeats 8000000 in
set_option maxRecDepth 100000 in
theorem spec_l02Same.calls (k : Nat) (A0 : Option Addr) (c0 : Nat) (l0 : List (S65)) (A1 : Option Addr) (c1 : Nat) (l1 : List (S65)) (r : Bool) (w : World) (hr0 : Kd.C k65 w A0 l0.length l0) (hc0 : l0.length ≤ c0) (hr1 : Kd.C k65 w A1 l1.length l1) (hc1 : l1.length ≤ c1) (h : spec_l02Same.f k l0 l1 = some r) :
    Calls Try.prog 82 #[.slice A0 l0.length c0, .slice A1 l1.length c1] w fun e w' => e = .returned (.bool r) ∧ Drawn0 w w' := by
  have hu65 := Try.underlying65; have HR0 := Aside0.mk hr0; have HC0 := Aside0.mk hc0; clear hr0 hc0; have HR1 := Aside0.mk hr1; have HC1 := Aside0.mk hc1; clear hr1 hc1; have H : (if (l0.length : Int) = (l1.length : Int) then (spec_l02Same.l0 k l0 l1 0) else (some false)) = some r := h; clear h; by_cases c3 : (l0.length : Int) = (l1.length : Int)
  · rw [if_pos c3] at H; have c3b0 : ((l0.length : Int) == (l1.length : Int)) = true := beq_iff_eq.mpr c3; have c3b1 : ((l0.length : Int) != (l1.length : Int)) = false := bne_eq_false_iff_eq.mpr c3; (have c3b2 : (l0.length == l1.length) = true := by first | simpa using c3 | (simp at c3 ⊢; omega)); clear c3; have H' := Aside0.mk H; clear H; go_enter Try.func82, Try.ntmps82; go_wp2; (repeat (go_quiet (fail); try go_wp2)); go_loopg [5] k (fun kq v5 w' => ∃ (x5_1 : Int), v5 = .int .i64 x5_1 ∧ Aside0 (spec_l02Same.l0 kq l0 l1 x5_1 = some r) ∧ Aside0 (kq ≤ k) ∧ Drawn0 w w')
    case atStart => exact ⟨(0), z5_, H', ⟨Nat.le_refl _⟩, z24_⟩
    case round =>
      clear H'; (try clear c1); (try clear p2); (try clear c3); (try clear c3b0); (try clear c3b1); (try clear c3b2); obtain ⟨x5_1, rfl, HA, HK1, ⟨m1, rfl⟩⟩ := hrel
      cases gk with
      | zero => exact absurd HA.out (by simp [spec_l02Same.l0])
      | succ k1 =>
        have H := HA.out; clear HA; simp only [spec_l02Same.l0] at H; by_cases c4 : x5_1 < (l0.length : Int)
        · rw [if_pos c4] at H; have c4b0 : decide (x5_1 < (l0.length : Int)) = true := decide_eq_true c4; clear c4; by_cases c5 : 0 ≤ x5_1
          · rw [if_pos c5] at H; have c5b0 : decide (0 ≤ x5_1) = true := decide_eq_true c5; clear c5; by_cases c6 : x5_1 < (l1.length : Int)
            · rw [if_pos c6] at H; have c6b0 : decide (x5_1 < (l1.length : Int)) = true := decide_eq_true c6; clear c6; by_cases c7 : (!(((rd_T65 l0 x5_1).f0) == ((rd_T65 l1 x5_1).f0)) || (!(((rd_T65 l0 x5_1).f1) == ((rd_T65 l1 x5_1).f1)) || (!(((rd_T65 l0 x5_1).f2) == ((rd_T65 l1 x5_1).f2))))) = true
              · rw [if_pos c7] at H; have c7b0 : (!(((rd_T65 l0 x5_1).f0) == ((rd_T65 l1 x5_1).f0)) || (!(((rd_T65 l0 x5_1).f1) == ((rd_T65 l1 x5_1).f1)) || (!(((rd_T65 l0 x5_1).f2) == ((rd_T65 l1 x5_1).f2))))) = true := c7; clear c7; obtain rfl := Option.some.inj H; have p342 : 0 ≤ (x5_1 : Int) := of_decide_eq_true z1_; have q342 : x5_1 < (l0.length : Int) := of_decide_eq_true z1_; obtain ⟨ad342, e342, hx342_0, hx342_1, hx342_2⟩ := at_T65 HR0.out x5_1 p342 q342; cases e342; replace p342 := eq_true p342; replace q342 := eq_true q342; have p343 : 0 ≤ (x5_1 : Int) := of_decide_eq_true z1_; have q343 : x5_1 < (l1.length : Int) := of_decide_eq_true z1_; obtain ⟨ad343, e343, hx343_0, hx343_1, hx343_2⟩ := at_T65 HR1.out x5_1 p343 q343; cases e343; replace p343 := eq_true p343; replace q343 := eq_true q343; go_wp2; (repeat (go_quiet (fail); try go_wp2)); go_ret; exact ⟨z5_, z24_⟩
              · rw [if_neg c7] at H; (have c7b0 : (!(((rd_T65 l0 x5_1).f0) == ((rd_T65 l1 x5_1).f0)) || (!(((rd_T65 l0 x5_1).f1) == ((rd_T65 l1 x5_1).f1)) || (!(((rd_T65 l0 x5_1).f2) == ((rd_T65 l1 x5_1).f2))))) = false := by simpa using c7); clear c7; have H' := Aside0.mk H; clear H; have p342 : 0 ≤ (x5_1 : Int) := of_decide_eq_true z1_; have q342 : x5_1 < (l0.length : Int) := of_decide_eq_true z1_; obtain ⟨ad342, e342, hx342_0, hx342_1, hx342_2⟩ := at_T65 HR0.out x5_1 p342 q342; cases e342; replace p342 := eq_true p342; replace q342 := eq_true q342; have p343 : 0 ≤ (x5_1 : Int) := of_decide_eq_true z1_; have q343 : x5_1 < (l1.length : Int) := of_decide_eq_true z1_; obtain ⟨ad343, e343, hx343_0, hx343_1, hx343_2⟩ := at_T65 HR1.out x5_1 p343 q343; cases e343; replace p343 := eq_true p343; replace q343 := eq_true q343; go_wp2; (repeat (go_quiet (fail); try go_wp2)); go_roundg k1
                case measure => have := HK1.out; omega
                case rel => exact ⟨(wrap64 (x5_1 + 1)), z5_, H', ⟨z78_⟩, z24_⟩
            · rw [if_neg c6] at H; exact absurd H (by simp)
          · rw [if_neg c5] at H; exact absurd H (by simp)
        · rw [if_neg c4] at H; have c4b0 : decide (x5_1 < (l0.length : Int)) = false := decide_eq_false c4; clear c4; obtain rfl := Option.some.inj H; go_wp2; (repeat (go_quiet (fail); try go_wp2)); go_ret; exact ⟨z5_, z24_⟩
  · rw [if_neg c3] at H; have c3b0 : ((l0.length : Int) == (l1.length : Int)) = false := beq_eq_false_iff_ne.mpr c3; have c3b1 : ((l0.length : Int) != (l1.length : Int)) = true := bne_iff_ne.mpr c3; (have c3b2 : (l0.length == l1.length) = false := by first | simpa using c3 | (simp at c3 ⊢; omega)); obtain rfl := Option.some.inj H; go_enter Try.func82, Try.ntmps82; go_wp2; (repeat (go_quiet (fail); try go_wp2)); go_ret; exact ⟨z5_, z24_⟩

/-! ### spec_SameDebts: function 47 -/
def spec_SameDebts.f (k : Nat) (l0 : List (S65)) (l1 : List (S65)) : Option (Bool) := (spec_l02Same.f k l0 l1).bind fun t344 => (some t344)
theorem spec_SameDebts.mono : ∀ a0 a1 k, LeO (spec_SameDebts.f k a0 a1) (spec_SameDebts.f (k + 1) a0 a1) := by
  intro a0 a1 k; unfold spec_SameDebts.f
  repeat' first
      | (with_reducible exact spec_l02Same.mono _ _ _)
      | (with_reducible exact LeO.refl _)
      | (with_reducible exact LeO.none _)
      | (with_reducible refine LeO.ite ?_ ?_)
      | (with_reducible refine LeO.bind ?_ (fun _ => ?_))
      | exact spec_l02Same.mono _ _ _
      | exact LeO.none _
      | refine LeO.ite ?_ ?_
      | refine LeO.bind ?_ (fun _ => ?_)
set_option maxHeartbeats 8000000 in
set_option maxRecDepth 100000 in
theorem spec_SameDebts.calls (k : Nat) (A0 : Option Addr) (c0 : Nat) (l0 : List (S65)) (A1 : Option Addr) (c1 : Nat) (l1 : List (S65)) (r : Bool) (w : World) (hr0 : Kd.C k65 w A0 l0.length l0) (hc0 : l0.length ≤ c0) (hr1 : Kd.C k65 w A1 l1.length l1) (hc1 : l1.length ≤ c1) (h : spec_SameDebts.f k l0 l1 = some r) :
    Calls Try.prog 47 #[.slice A0 l0.length c0, .slice A1 l1.length c1] w fun e w' => e = .returned (.bool r) ∧ Drawn0 w w' := by
  have HR0 := Aside0.mk hr0; have HC0 := Aside0.mk hc0; clear hr0 hc0; have HR1 := Aside0.mk hr1; have HC1 := Aside0.mk hc1; clear hr1 hc1; have H : ((spec_l02Same.f k l0 l1).bind fun t344 => (some t344)) = some r := h; clear h; replace H := Option.bind_eq_some_iff.mp H; obtain ⟨t344, A30, H⟩ := H; replace H : (some t344) = some r := H; have A3 := Aside0.mk A30; clear A30; obtain rfl := Option.some.inj H; go_enter Try.func47, Try.ntmps47; go_wp2_with (first | ((with_reducible refine gate_callee (f := 82) rfl ?_); refine goesL_ (some 7) rfl rfl Try.func82 z4_ rfl #[.slice A0 l0.length c0, .slice A1 l1.length c1] rfl z2_ ?_; (with_reducible refine (spec_l02Same.calls k _ _ l0 _ _ l1 t344 _ ?side1 ?side2 ?side3 ?side4 A3.out).mono ?_); (case side1 => repeat (first | exact HR0.out | (with_reducible refine Kd.C_alloc ?_ _) | (with_reducible refine Kd.C_drewN ?_ _) | (with_reducible refine Kd.C_drew ?_))); (case side2 => exact HC0.out); (case side3 => repeat (first | exact HR1.out | (with_reducible refine Kd.C_alloc ?_ _) | (with_reducible refine Kd.C_drewN ?_ _) | (with_reducible refine Kd.C_drew ?_))); (case side4 => exact HC1.out); rintro e w' ⟨rfl, ⟨nd, rfl⟩⟩; refine ⟨_, rfl, ?_⟩)); go_ret; exact ⟨z5_, z24_⟩

/-! ### spec_l02Nets: function 74 -/
def spec_l02Nets.l0 : Nat → List (S65) → List Int → Int → Option (List Int)
  | 0, _, _, _ => none
  | k + 1, x1, x5, x6 => if x6 < (x1.length : Int) then (if 0 ≤ x6 then (if 0 ≤ ((rd_T65 x1 x6).f0) then (if ((rd_T65 x1 x6).f0) < (x5.length : Int) then ((some (x5.set (((rd_T65 x1 x6).f0) : Int).toNat (wrap64 ((rd x5 ((rd_T65 x1 x6).f0)) - ((rd_T65 x1 x6).f2))) : List Int)).bind fun y351 => (if 0 ≤ ((rd_T65 x1 x6).f1) then (if ((rd_T65 x1 x6).f1) < (x5.length : Int) then (spec_l02Nets.l0 k x1 (y351.set (((rd_T65 x1 x6).f1) : Int).toNat (wrap64 ((rd y351 ((rd_T65 x1 x6).f1)) + ((rd_T65 x1 x6).f2)))) (wrap64 (x6 + 1))) else (none)) else (none))) else (none)) else (none)) else (none)) else (some x5)
def spec_l02Nets.f (k : Nat) (a0 : Int) (l1 : List (S65)) : Option (List Int) := if 0 ≤ a0 then (if (a0 : Int).toNat ≤ 35184372088832 then (spec_l02Nets.l0 k l1 (List.replicate (a0 : Int).toNat 0) 0) else (none)) else (none)
theorem spec_l02Nets.mono_l : ∀ k, (∀ y0 y1 y2, LeO (spec_l02Nets.l0 k y0 y1 y2) (spec_l02Nets.l0 (k + 1) y0 y1 y2))
  | 0 => fun _ _ _ r h => by simp [spec_l02Nets.l0] at h
  | k + 1 => by
    have ih0 := spec_l02Nets.mono_l k
    · intro y0 y1 y2
      unfold spec_l02Nets.l0
      repeat' first
      | (with_reducible exact ih0 _ _ _)
      | (with_reducible exact LeO.refl _)
      | (with_reducible exact LeO.none _)
      | (with_reducible refine LeO.ite ?_ ?_)
      | (with_reducible refine LeO.bind ?_ (fun _ => ?_))
      | exact ih0 _ _ _
      | exact LeO.none _
      | refine LeO.ite ?_ ?_
      | refine LeO.bind ?_ (fun _ => ?_)
theorem spec_l02Nets.mono : ∀ a0 a1 k, LeO (spec_l02Nets.f k a0 a1) (spec_l02Nets.f (k + 1) a0 a1) := by
  intro a0 a1 k; have ih0 := spec_l02Nets.mono_l k; unfold spec_l02Nets.f
  repeat' first
      | (with_reducible exact ih0 _ _ _)
      | (with_reducible exact LeO.refl _)
      | (with_reducible exact LeO.none _)
      | (with_reducible refine LeO.ite ?_ ?_)
      | (with_reducible refine LeO.bind ?_ (fun _ => ?_))
      | exact ih0 _ _ _
      | exact LeO.none _
      | refine LeO.ite ?_ ?_
      | refine LeO.bind ?_ (fun _ => ?_)
def spec_l02Nets.T5 : Bool × List (List Nat × List Nat) := (true, [([], []), ([], []), ([], []), ([1, 2], [1, 2]), ([3], [3]), ([4], [4]), ([0, 5], [0, 5]), ([6], [6]), ([], []), ([], []), ([8, 9], [8, 9]), ([10], [10]), ([11], [11]), ([7, 12], [7, 12]), ([0, 5, 0, 1, 2, 3, 4, 5, 6, 7, 8, 9, 10, 11, 12, 13], [0, 5]), ([14, 13, 0, 1, 2, 3, 4, 5, 6, 7, 8, 9, 10, 11, 12, 13], [13, 14])])
def spec_l02Nets.B5 : List Nat := [0, 0, 0, 6, 14, 30, 63, 127, 0, 0, 768, 1792, 3840, 8191, 16383, 32767]
theorem spec_l02Nets.tab5 : rtab .any (opsOf Try.f74 5) = spec_l02Nets.T5 := by kernel_rfl
theorem spec_l02Nets.bits5 : waitsOk spec_l02Nets.T5.2 spec_l02Nets.B5 = true := by kernel_rfl
def spec_l02Nets.T6 : Bool × List (List Nat × List Nat) := (true, [([], []), ([], []), ([], []), ([1, 2], [1, 2]), ([3], [3]), ([4], [4]), ([0, 5], [0, 5]), ([6], [6]), ([], []), ([], []), ([8, 9], [8, 9]), ([10], [10]), ([11], [11]), ([7, 12], [7, 12]), ([0, 5, 0, 1, 2, 3, 4, 5, 6, 7, 8, 9, 10, 11, 12, 13], [0, 5]), ([14, 13, 0, 1, 2, 3, 4, 5, 6, 7, 8, 9, 10, 11, 12, 13], [13, 14])])
def spec_l02Nets.B6 : List Nat := [0, 0, 0, 6, 14, 30, 63, 127, 0, 0, 768, 1792, 3840, 8191, 16383, 32767]
theorem spec_l02Nets.tab6 : rtab .any (opsOf Try.f74 6) = spec_l02Nets.T6 := by kernel_rfl
theorem spec_l02Nets.bits6 : waitsOk spec_l02Nets.T6.2 spec_l02Nets.B6 = true := by kernel_rfl
set_option maxHeartbeats 8000000 in
set_option maxRecDepth 100000 in
theorem spec_l02Nets.calls (k : Nat) (a0 : Int) (A1 : Option Addr) (c1 : Nat) (l1 : List (S65)) (r : List Int) (w : World) (hr1 : Kd.C k65 w A1 l1.length l1) (hc1 : l1.length ≤ c1) (h : spec_l02Nets.f k a0 l1 = some r) :
    Calls Try.prog 74 #[.int .i64 a0, .slice A1 l1.length c1] w fun e w' => ∃ v0_ : Value, e = .returned (v0_) ∧ Kd.R (Kd.int .i64) 2 w' w.heap.size (fun _ => True) v0_ r ∧ Below w.heap.size w w' := by
  have HR1 := Aside0.mk hr1; have HC1 := Aside0.mk hc1; clear hr1 hc1; have HB := Aside0.mk (Below.refl w.heap.size w); have H : (if 0 ≤ a0 then (if (a0 : Int).toNat ≤ 35184372088832 then (spec_l02Nets.l0 k l1 (List.replicate (a0 : Int).toNat 0) 0) else (none)) else (none)) = some r := h; clear h; by_cases c3 : 0 ≤ a0
  · rw [if_pos c3] at H; have c3b0 := eq_true c3; have c3b1 : decide (0 ≤ a0) = true := decide_eq_true c3; clear c3; by_cases c4 : (a0 : Int).toNat ≤ 35184372088832
    · rw [if_pos c4] at H; have c4b0 := eq_true c4; have c4b1 : decide ((a0 : Int).toNat ≤ 35184372088832) = true := decide_eq_true c4; clear c4; obtain ⟨y345, hy345⟩ : ∃ y_ : List Int, y_ = (List.replicate (a0 : Int).toNat 0) := ⟨_, rfl⟩; (replace H : (spec_l02Nets.l0 k l1 y345 0) = some r := by first | (rw [hy345]; with_reducible exact H) | (have H2_ := (Option.bind_some _ _).symm.trans H; rw [hy345]; with_reducible exact H2_) | (have H2_ := (Option.bind_some _ _).symm.trans H; with_reducible exact H2_) | with_reducible exact H | (rw [hy345]; exact H) | exact H); have Ny345 := Aside0.mk hy345; clear hy345; have H' := Aside0.mk H; clear H; go_enter Try.func74, Try.ntmps74; go_wp2_with (first | ((with_reducible refine gate_dst (N := 8) rfl ?_); refine Kd.R_make (Kd.int .i64) _ 2 rfl (N := 8) rfl 34 _ _ rfl a0 rfl rfl Try.underlying34 (.int .i64 0) 8 info2 rfl (by decide) (by omega) 0 (ok := fun _ => True) (okp := fun _ => True) rfl (fun _ hk => hk) trivial (of_decide_eq_true z1_) (Nat.le_trans (Nat.mul_le_mul_right _ (of_decide_eq_true (z1_) : a0.toNat ≤ 35184372088832)) (by omega)) (Below.refl _ _) (Nat.le_refl _) ?_; intro v346 w5 ho6 hb hg_ hnew_; clear hg_ hnew_; (first | rw [← Ny345.out] at ho6 | (simp only [Int.reduceToNat] at ho6; rw [← Ny345.out] at ho6)); have n0_ := Aside0.mk (Kd.R_lower ho6 (below_size z0_)); have n1_ := Aside0.mk (below_step z0_ hb); clear HB; have HO347 := n0_; have HB := n1_; clear n0_ n1_; clear hb ho6)); go_loopg [6] k (fun kq v6 w' => ∃ (x5_1 : List Int) (x6_1 : Int), v6 = .int .i64 x6_1 ∧ Aside0 (spec_l02Nets.l0 kq l1 x5_1 x6_1 = some r) ∧ Aside0 (kq ≤ k) ∧ Aside0 (Kd.R (Kd.int .i64) 2 w' w.heap.size (fun _ => True) v346 x5_1) ∧ Aside0 (Below w.heap.size w w'))
      case atStart => exact ⟨(y345), (0), z5_, H', ⟨Nat.le_refl _⟩, ⟨by (with_reducible repeat (first | apply Kd.R_alloc | apply Kd.R_drewN | apply Kd.R_drew)); exact HO347.out⟩, ⟨z0_⟩⟩
      case round =>
        clear H'; (try clear c1); (try clear p2); (try clear c3); (try clear c3b0); (try clear c3b1); (try clear c4); (try clear c4b0); (try clear c4b1); obtain ⟨x5_1, x6_1, rfl, HA, HK1, HO_5, HB⟩ := hrel
        cases gk with
        | zero => exact absurd HA.out (by simp [spec_l02Nets.l0])
        | succ k1 =>
          have H := HA.out; clear HA; simp only [spec_l02Nets.l0] at H; by_cases c7 : x6_1 < (l1.length : Int)
          · rw [if_pos c7] at H; have c7b0 : decide (x6_1 < (l1.length : Int)) = true := decide_eq_true c7; clear c7; by_cases c8 : 0 ≤ x6_1
            · rw [if_pos c8] at H; have c8b0 : decide (0 ≤ x6_1) = true := decide_eq_true c8; clear c8; by_cases c9 : 0 ≤ ((rd_T65 l1 x6_1).f0)
              · rw [if_pos c9] at H; have c9b0 : decide (0 ≤ ((rd_T65 l1 x6_1).f0)) = true := decide_eq_true c9; clear c9; by_cases c10 : ((rd_T65 l1 x6_1).f0) < (x5_1.length : Int)
                · rw [if_pos c10] at H; have c10b0 : decide (((rd_T65 l1 x6_1).f0) < (x5_1.length : Int)) = true := decide_eq_true c10; clear c10; obtain ⟨y351, hy351⟩ : ∃ y_ : List Int, y_ = (x5_1.set (((rd_T65 l1 x6_1).f0) : Int).toNat (wrap64 ((rd x5_1 ((rd_T65 l1 x6_1).f0)) - ((rd_T65 l1 x6_1).f2)))) := ⟨_, rfl⟩; (replace H : (if 0 ≤ ((rd_T65 l1 x6_1).f1) then (if ((rd_T65 l1 x6_1).f1) < (x5_1.length : Int) then (spec_l02Nets.l0 k1 l1 (y351.set (((rd_T65 l1 x6_1).f1) : Int).toNat (wrap64 ((rd y351 ((rd_T65 l1 x6_1).f1)) + ((rd_T65 l1 x6_1).f2)))) (wrap64 (x6_1 + 1))) else (none)) else (none)) = some r := by first | (rw [hy351]; with_reducible exact H) | (have H2_ := (Option.bind_some _ _).symm.trans H; rw [hy351]; with_reducible exact H2_) | (have H2_ := (Option.bind_some _ _).symm.trans H; with_reducible exact H2_) | with_reducible exact H | (rw [hy351]; exact H) | exact H); have Ny351 := Aside0.mk hy351; clear hy351; by_cases c12 : 0 ≤ ((rd_T65 l1 x6_1).f1)
                  · rw [if_pos c12] at H; have c12b0 : decide (0 ≤ ((rd_T65 l1 x6_1).f1)) = true := decide_eq_true c12; clear c12; by_cases c13 : ((rd_T65 l1 x6_1).f1) < (x5_1.length : Int)
                    · rw [if_pos c13] at H; have c13b0 : decide (((rd_T65 l1 x6_1).f1) < (x5_1.length : Int)) = true := decide_eq_true c13; clear c13; obtain ⟨y355, hy355⟩ : ∃ y_ : List Int, y_ = (y351.set (((rd_T65 l1 x6_1).f1) : Int).toNat (wrap64 ((rd y351 ((rd_T65 l1 x6_1).f1)) + ((rd_T65 l1 x6_1).f2)))) := ⟨_, rfl⟩; (replace H : (spec_l02Nets.l0 k1 l1 y355 (wrap64 (x6_1 + 1))) = some r := by first | (rw [hy355]; with_reducible exact H) | (have H2_ := (Option.bind_some _ _).symm.trans H; rw [hy355]; with_reducible exact H2_) | (have H2_ := (Option.bind_some _ _).symm.trans H; with_reducible exact H2_) | with_reducible exact H | (rw [hy355]; exact H) | exact H); have Ny355 := Aside0.mk hy355; clear hy355; have H' := Aside0.mk H; clear H; (try go_wp2); have n0_ := Aside0.mk (Kd.R_drew HO_5.out); have n1_ := Aside0.mk (below_drew1 HB.out); clear HO_5; clear HB; have HO_5 := n0_; have HB := n1_; clear n0_ n1_; have p348 : 0 ≤ (x6_1 : Int) := of_decide_eq_true z1_; have q348 : x6_1 < (l1.length : Int) := of_decide_eq_true z1_; obtain ⟨ad348, e348, hx348_0, hx348_1, hx348_2⟩ := at_T65 HR1.out x6_1 p348 q348; have hw348_2 := hx348_2; have hw348_1 := hx348_1; have hw348_0 := hx348_0; cases e348; replace hx348_0 := (HB.out.cell (World.block_lt_of_cell? w _ hx348_0)).trans hx348_0; replace hx348_1 := (HB.out.cell (World.block_lt_of_cell? w _ hx348_1)).trans hx348_1; replace hx348_2 := (HB.out.cell (World.block_lt_of_cell? w _ hx348_2)).trans hx348_2; replace p348 := eq_true p348; replace q348 := eq_true q348; obtain ⟨Ao16, co16, eo16⟩ := Kd.R_slice HO_5.out; (first | subst eo16 | (injection eo16 with f1_ f2_ f3_; have f4_ := f1_.symm; have f5_ := f3_.symm; clear f1_ f2_ f3_; subst f4_; subst f5_)); have p349 : 0 ≤ (((rd_T65 l1 x6_1).f0) : Int) := of_decide_eq_true z1_; have q349 : ((rd_T65 l1 x6_1).f0) < (x5_1.length : Int) := of_decide_eq_true z1_; obtain ⟨ad349, e349, hx349_0⟩ := Kd.at_int (Kd.R_reads' HO_5.out).2.2 ((rd_T65 l1 x6_1).f0) p349 q349; cases e349; replace p349 := eq_true p349; replace q349 := eq_true q349; have p350 : 0 ≤ (x6_1 : Int) := of_decide_eq_true z1_; have q350 : x6_1 < (l1.length : Int) := of_decide_eq_true z1_; obtain ⟨ad350, e350, hx350_0, hx350_1, hx350_2⟩ := at_T65 HR1.out x6_1 p350 q350; have hw350_2 := hx350_2; have hw350_1 := hx350_1; have hw350_0 := hx350_0; obtain rfl : ad348 = ad350 := (by injection e350); replace hx350_0 := (HB.out.cell (World.block_lt_of_cell? w _ hx350_0)).trans hx350_0; replace hx350_1 := (HB.out.cell (World.block_lt_of_cell? w _ hx350_1)).trans hx350_1; replace hx350_2 := (HB.out.cell (World.block_lt_of_cell? w _ hx350_2)).trans hx350_2; replace p350 := eq_true p350; replace q350 := eq_true q350; have p11 : 0 ≤ (((rd_T65 l1 x6_1).f0) : Int) := of_decide_eq_true z1_; have q11 : (((rd_T65 l1 x6_1).f0) : Int) < ((x5_1.length : Int) : Int) := of_decide_eq_true z1_; obtain ⟨go11, co11, eo11, gb11, gl11, cl11, HG11⟩ := Kd.R_form HO_5.out (by omega); (first | cases eo11 | (injection eo11 with ea_ en_ ec_; (first | subst ea_ | (injection ea_ with ea_; subst ea_)); subst ec_; clear en_)); have GB11 := Aside0.mk gb11; have GG11 := Aside0.mk HG11; clear gb11 gl11 HG11; (first | simp only [add_plain] at hx349_0 | skip); obtain ⟨hx11_0, hf11_0⟩ := Kd.R_celln 0 HO_5.out (((rd_T65 l1 x6_1).f0) : Int) p11 q11; replace p11 := eq_true p11; replace q11 := eq_true q11; have HP17 := Kd.R_putn HO_5.out (((rd_T65 l1 x6_1).f0) : Int) (wrap64 ((rd x5_1 ((rd_T65 l1 x6_1).f0)) - ((rd_T65 l1 x6_1).f2))); rw [← Ny351.out] at HP17; have HQ17 := Aside0.mk HP17; clear HP17; refine start_ (n := 16) (S := fun w' => w'.cell? (ad348.add ((x6_1).toNat * 3)) = some (.int .i64 ((rd_T65 l1 x6_1).f0)) ∧ w'.cell? ⟨(ad348.add ((x6_1).toNat * 3)).block, (ad348.add ((x6_1).toNat * 3)).off + 1, none⟩ = some (.int .i64 ((rd_T65 l1 x6_1).f1)) ∧ w'.cell? ⟨(ad348.add ((x6_1).toNat * 3)).block, (ad348.add ((x6_1).toNat * 3)).off + 2, none⟩ = some (.int .i64 ((rd_T65 l1 x6_1).f2)) ∧ w'.cell? ⟨go11, (((rd_T65 l1 x6_1).f0)).toNat, none⟩ = some (.int .i64 (rd x5_1 ((rd_T65 l1 x6_1).f0))) ∧ w'.cell? (ad348.add ((x6_1).toNat * 3)) = some (.int .i64 ((rd_T65 l1 x6_1).f0)) ∧ w'.cell? ⟨(ad348.add ((x6_1).toNat * 3)).block, (ad348.add ((x6_1).toNat * 3)).off + 1, none⟩ = some (.int .i64 ((rd_T65 l1 x6_1).f1)) ∧ w'.cell? ⟨(ad348.add ((x6_1).toNat * 3)).block, (ad348.add ((x6_1).toNat * 3)).off + 2, none⟩ = some (.int .i64 ((rd_T65 l1 x6_1).f2))) (ds := [15]) #[false, false, false, false, false, false, false, false, false, false, false, false, false, false, false, false] z4_ rfl rfl ⟨((HB.out.cell (World.block_lt_of_cell? _ _ hw348_0)).trans hw348_0), ((HB.out.cell (World.block_lt_of_cell? _ _ hw348_1)).trans hw348_1), ((HB.out.cell (World.block_lt_of_cell? _ _ hw348_2)).trans hw348_2), hx349_0, ((HB.out.cell (World.block_lt_of_cell? _ _ hw350_0)).trans hw350_0), ((HB.out.cell (World.block_lt_of_cell? _ _ hw350_1)).trans hw350_1), ((HB.out.cell (World.block_lt_of_cell? _ _ hw350_2)).trans hw350_2)⟩ (fun hHeld => ?_); refine with_tabW spec_l02Nets.tab5 spec_l02Nets.bits5 (fun HT_ HW_ => ?_); generalize wr.drew = w15 at HO_5 HB GG11 HQ17 hf11_0 hx11_0 hx348_0 hx348_1 hx348_2 hx349_0 hx350_0 hx350_1 hx350_2 hHeld ⊢; refine pure_ (i := 0) (N := some 15) (v := ?_) (a' := ?_) #[true, false, false, false, false, false, false, false, false, false, false, false, false, false, false, false] rfl rfl (any_of HT_.out z4_) (fun _ _ _ h => h) (Or.inl ⟨by rfl, ?_⟩) ?_ ?_; rotate_left
                      · intro w'; go_simp; with_reducible rfl
                      rotate_left
                      · simp only [Act.put, List.setIfInBounds_toArray, List.set_cons_zero, List.set_cons_succ, i64_w, i32_w]; rfl
                      refine pure_ (i := 1) (N := some 16) (v := ?_) (a' := ?_) #[true, true, false, false, false, false, false, false, false, false, false, false, false, false, false, false] rfl rfl (any_of HT_.out z4_) (fun _ _ _ h => h) (Or.inl ⟨by rfl, ?_⟩) ?_ ?_; rotate_left
                      · intro w'; go_simp; with_reducible rfl
                      rotate_left
                      · simp only [Act.put, List.setIfInBounds_toArray, List.set_cons_zero, List.set_cons_succ, i64_w, i32_w]; rfl
                      refine pure_ (i := 2) (N := some 17) (v := ?_) (a' := ?_) #[true, true, true, false, false, false, false, false, false, false, false, false, false, false, false, false] rfl rfl (any_of HT_.out z4_) (fun _ _ _ h => h) (Or.inl ⟨by rfl, ?_⟩) ?_ ?_; rotate_left
                      · intro w'; go_simp; with_reducible rfl
                      rotate_left
                      · simp only [Act.put, List.setIfInBounds_toArray, List.set_cons_zero, List.set_cons_succ, i64_w, i32_w]; rfl
                      refine pure_ (i := 3) (N := some 18) (v := ?_) (a' := ?_) #[true, true, true, true, false, false, false, false, false, false, false, false, false, false, false, false] rfl rfl (any_of HT_.out z4_) (fun _ _ _ h => h) (Or.inl ⟨by rfl, ?_⟩) ?_ ?_; rotate_left
                      · intro w'; go_simp; with_reducible rfl
                      rotate_left
                      · simp only [Act.put, List.setIfInBounds_toArray, List.set_cons_zero, List.set_cons_succ, i64_w, i32_w]; rfl
                      refine pure_ (i := 4) (N := some 19) (v := ?_) (a' := ?_) #[true, true, true, true, true, false, false, false, false, false, false, false, false, false, false, false] rfl rfl (any_of HT_.out z4_) (fun _ _ _ h => h) (Or.inl ⟨by rfl, ?_⟩) ?_ ?_; rotate_left
                      · intro w'; go_simp; with_reducible rfl
                      rotate_left
                      · simp only [Act.put, List.setIfInBounds_toArray, List.set_cons_zero, List.set_cons_succ, i64_w, i32_w]; rfl
                      refine pure_ (i := 8) (N := some 23) (v := ?_) (a' := ?_) #[true, true, true, true, true, false, false, false, true, false, false, false, false, false, false, false] rfl rfl (any_of HT_.out z4_) (fun _ _ _ h => h) (Or.inl ⟨by rfl, ?_⟩) ?_ ?_; rotate_left
                      · intro w'; go_simp; with_reducible rfl
                      rotate_left
                      · simp only [Act.put, List.setIfInBounds_toArray, List.set_cons_zero, List.set_cons_succ, i64_w, i32_w]; rfl
                      refine pure_ (i := 9) (N := some 24) (v := ?_) (a' := ?_) #[true, true, true, true, true, false, false, false, true, true, false, false, false, false, false, false] rfl rfl (any_of HT_.out z4_) (fun _ _ _ h => h) (Or.inl ⟨by rfl, ?_⟩) ?_ ?_; rotate_left
                      · intro w'; go_simp; with_reducible rfl
                      rotate_left
                      · simp only [Act.put, List.setIfInBounds_toArray, List.set_cons_zero, List.set_cons_succ, i64_w, i32_w]; rfl
                      refine pure_ (i := 10) (N := some 25) (v := ?_) (a' := ?_) #[true, true, true, true, true, false, false, false, true, true, true, false, false, false, false, false] rfl rfl (any_of HT_.out z4_) (fun _ _ _ h => h) (Or.inl ⟨by rfl, ?_⟩) ?_ ?_; rotate_left
                      · intro w'; go_simp; with_reducible rfl
                      rotate_left
                      · simp only [Act.put, List.setIfInBounds_toArray, List.set_cons_zero, List.set_cons_succ, i64_w, i32_w]; rfl
                      refine pure_ (i := 11) (N := some 26) (v := ?_) (a' := ?_) #[true, true, true, true, true, false, false, false, true, true, true, true, false, false, false, false] rfl rfl (any_of HT_.out z4_) (fun _ _ _ h => h) (Or.inl ⟨by rfl, ?_⟩) ?_ ?_; rotate_left
                      · intro w'; go_simp; with_reducible rfl
                      rotate_left
                      · simp only [Act.put, List.setIfInBounds_toArray, List.set_cons_zero, List.set_cons_succ, i64_w, i32_w]; rfl
                      refine take_ (i := 5) (N := some 20) (v := ?_) (a' := ?_) #[true, true, true, true, true, true, false, false, true, true, true, true, false, false, false, false] rfl rfl (take_ofW HT_.out HW_.out z4_) (fun _ _ _ h => h) (Or.inl ⟨by rfl, ?_⟩) hHeld ?_ ?_; rotate_left
                      · rintro w' ⟨s0, s1, s2, s3, s4, s5, s6⟩; go_simp; with_reducible rfl
                      rotate_left
                      · simp only [Act.put, List.setIfInBounds_toArray, List.set_cons_zero, List.set_cons_succ, i64_w, i32_w]; rfl
                      refine pure_ (i := 6) (N := some 21) (v := ?_) (a' := ?_) #[true, true, true, true, true, true, true, false, true, true, true, true, false, false, false, false] rfl rfl (any_of HT_.out z4_) (fun _ _ _ h => h) (Or.inl ⟨by rfl, ?_⟩) ?_ ?_; rotate_left
                      · intro w'; go_simp; with_reducible rfl
                      rotate_left
                      · simp only [Act.put, List.setIfInBounds_toArray, List.set_cons_zero, List.set_cons_succ, i64_w, i32_w]; rfl
                      refine take_ (i := 7) (N := some 22) (v := ?_) (a' := ?_) #[true, true, true, true, true, true, true, true, true, true, true, true, false, false, false, false] rfl rfl (take_ofW HT_.out HW_.out z4_) (fun _ _ _ h => h) (Or.inl ⟨by rfl, ?_⟩) hHeld ?_ ?_; rotate_left
                      · rintro w' ⟨s0, s1, s2, s3, s4, s5, s6⟩; go_simp; with_reducible rfl
                      rotate_left
                      · simp only [Act.put, List.setIfInBounds_toArray, List.set_cons_zero, List.set_cons_succ, i64_w, i32_w]; rfl
                      refine take_ (i := 12) (N := some 27) (v := ?_) (a' := ?_) #[true, true, true, true, true, true, true, true, true, true, true, true, true, false, false, false] rfl rfl (take_ofW HT_.out HW_.out z4_) (fun _ _ _ h => h) (Or.inl ⟨by rfl, ?_⟩) hHeld ?_ ?_; rotate_left
                      · rintro w' ⟨s0, s1, s2, s3, s4, s5, s6⟩; go_simp; with_reducible rfl
                      rotate_left
                      · simp only [Act.put, List.setIfInBounds_toArray, List.set_cons_zero, List.set_cons_succ, i64_w, i32_w]; rfl
                      refine pure_ (i := 13) (N := some 28) (v := ?_) (a' := ?_) #[true, true, true, true, true, true, true, true, true, true, true, true, true, true, false, false] rfl rfl (any_of HT_.out z4_) (fun _ _ _ h => h) (Or.inl ⟨by rfl, ?_⟩) ?_ ?_; rotate_left
                      · intro w'; go_simp; with_reducible rfl
                      rotate_left
                      · simp only [Act.put, List.setIfInBounds_toArray, List.set_cons_zero, List.set_cons_succ, i64_w, i32_w]; rfl
                      refine pure_ (i := 14) (N := some 29) (v := ?_) (a' := ?_) #[true, true, true, true, true, true, true, true, true, true, true, true, true, true, true, false] rfl rfl (any_of HT_.out z4_) (fun _ _ _ h => h) (Or.inl ⟨by rfl, ?_⟩) ?_ ?_; rotate_left
                      · intro w'; go_simp; with_reducible rfl
                      rotate_left
                      · simp only [Act.put, List.setIfInBounds_toArray, List.set_cons_zero, List.set_cons_succ, i64_w, i32_w]; rfl
                      refine last_ (i := 15) (N := none) #[true, true, true, true, true, true, true, true, true, true, true, true, true, true, true, true] rfl rfl (one_of HT_.out z4_) (by decide) (fun K hK => ?_); refine skip_ (w1 := ?_) (by rfl) rfl ?_ ?_; rotate_left
                      · go_simp; rfl
                      refine hK.out _ _ ?_; clear hK K; refine done_ (done_of HT_.out z4_) ?_; (try go_wp2); have n0_ : Aside0 (Kd.R (Kd.int .i64) 2 (w15.setCell ⟨go11, (((rd_T65 l1 x6_1).f0) : Int).toNat, none⟩ (.int .i64 (wrap64 ((rd x5_1 ((rd_T65 l1 x6_1).f0)) - ((rd_T65 l1 x6_1).f2))))) w.heap.size (fun _ => True) (.slice (some ⟨go11, 0, none⟩) x5_1.length co16) y351) := ⟨by (with_reducible repeat (first | apply Kd.R_alloc | apply Kd.R_drewN | apply Kd.R_drew)); exact HQ17.out⟩; have n1_ : Aside0 (Below w.heap.size w (w15.setCell ⟨go11, (((rd_T65 l1 x6_1).f0) : Int).toNat, none⟩ (.int .i64 (wrap64 ((rd x5_1 ((rd_T65 l1 x6_1).f0)) - ((rd_T65 l1 x6_1).f2)))))) := ⟨by repeat (first | (with_reducible first | exact HB.out | apply below_alloc | apply pw_below_drewN | apply below_drew1 | refine below_set ?_ GB11.out) | exact HB.out)⟩; (try clear HO_5); (try clear HB); generalize (w15.setCell ⟨go11, (((rd_T65 l1 x6_1).f0) : Int).toNat, none⟩ (.int .i64 (wrap64 ((rd x5_1 ((rd_T65 l1 x6_1).f0)) - ((rd_T65 l1 x6_1).f2))))) = w18 at n0_ n1_ ⊢; have HO_5 := n0_; have HB := n1_; clear n0_ n1_; have n0_ := Aside0.mk (Kd.R_drew HO_5.out); have n1_ := Aside0.mk (below_drew1 HB.out); clear HO_5; clear HB; have HO_5 := n0_; have HB := n1_; clear n0_ n1_; have p352 : 0 ≤ (x6_1 : Int) := of_decide_eq_true z1_; have q352 : x6_1 < (l1.length : Int) := of_decide_eq_true z1_; obtain ⟨ad352, e352, hx352_0, hx352_1, hx352_2⟩ := at_T65 HR1.out x6_1 p352 q352; have hw352_2 := hx352_2; have hw352_1 := hx352_1; have hw352_0 := hx352_0; obtain rfl : ad348 = ad352 := (by injection e352); replace hx352_0 := (HB.out.cell (World.block_lt_of_cell? w _ hx352_0)).trans hx352_0; replace hx352_1 := (HB.out.cell (World.block_lt_of_cell? w _ hx352_1)).trans hx352_1; replace hx352_2 := (HB.out.cell (World.block_lt_of_cell? w _ hx352_2)).trans hx352_2; replace p352 := eq_true p352; replace q352 := eq_true q352; have p353 : 0 ≤ (((rd_T65 l1 x6_1).f1) : Int) := of_decide_eq_true z1_; have q353 : ((rd_T65 l1 x6_1).f1) < (y351.length : Int) := (by have h_ : (((rd_T65 l1 x6_1).f1) : Int) < ((x5_1.length : Int) : Int) := of_decide_eq_true z1_; first | (have e_ := (Kd.R_reads' HO_5.out).1; omega) | simpa only [Ny351.out, List.length_set] using h_); have ql353 : ((((rd_T65 l1 x6_1).f1) : Int) < ((x5_1.length : Int) : Int)) = True := eq_true (of_decide_eq_true z1_); obtain ⟨ad353, e353, hx353_0⟩ := Kd.at_int (Kd.R_reads' HO_5.out).2.2 ((rd_T65 l1 x6_1).f1) p353 q353; obtain rfl : (⟨go11, 0, none⟩ : Addr) = ad353 := (by injection e353); (first | simp only [add_plain] at hx353_0 | simp only [add_at] at hx353_0 | simp only [Addr.add, Nat.zero_add] at hx353_0 | skip); replace p353 := eq_true p353; replace q353 := eq_true q353; have p354 : 0 ≤ (x6_1 : Int) := of_decide_eq_true z1_; have q354 : x6_1 < (l1.length : Int) := of_decide_eq_true z1_; obtain ⟨ad354, e354, hx354_0, hx354_1, hx354_2⟩ := at_T65 HR1.out x6_1 p354 q354; have hw354_2 := hx354_2; have hw354_1 := hx354_1; have hw354_0 := hx354_0; obtain rfl : ad348 = ad354 := (by injection e354); replace hx354_0 := (HB.out.cell (World.block_lt_of_cell? w _ hx354_0)).trans hx354_0; replace hx354_1 := (HB.out.cell (World.block_lt_of_cell? w _ hx354_1)).trans hx354_1; replace hx354_2 := (HB.out.cell (World.block_lt_of_cell? w _ hx354_2)).trans hx354_2; replace p354 := eq_true p354; replace q354 := eq_true q354; have p14 : 0 ≤ (((rd_T65 l1 x6_1).f1) : Int) := of_decide_eq_true z1_; have q14 : (((rd_T65 l1 x6_1).f1) : Int) < ((x5_1.length : Int) : Int) := of_decide_eq_true z1_; obtain ⟨hx14_0, hf14_0⟩ := Kd.R_celln 0 HO_5.out (((rd_T65 l1 x6_1).f1) : Int) p14 q14; replace p14 := eq_true p14; replace q14 := eq_true q14; have HP20 := Kd.R_putn HO_5.out (((rd_T65 l1 x6_1).f1) : Int) (wrap64 ((rd y351 ((rd_T65 l1 x6_1).f1)) + ((rd_T65 l1 x6_1).f2))); rw [← Ny355.out] at HP20; have HQ20 := Aside0.mk HP20; clear HP20; refine start_ (n := 16) (S := fun w' => w'.cell? (ad348.add ((x6_1).toNat * 3)) = some (.int .i64 ((rd_T65 l1 x6_1).f0)) ∧ w'.cell? ⟨(ad348.add ((x6_1).toNat * 3)).block, (ad348.add ((x6_1).toNat * 3)).off + 1, none⟩ = some (.int .i64 ((rd_T65 l1 x6_1).f1)) ∧ w'.cell? ⟨(ad348.add ((x6_1).toNat * 3)).block, (ad348.add ((x6_1).toNat * 3)).off + 2, none⟩ = some (.int .i64 ((rd_T65 l1 x6_1).f2)) ∧ w'.cell? ⟨go11, (((rd_T65 l1 x6_1).f1)).toNat, none⟩ = some (.int .i64 (rd y351 ((rd_T65 l1 x6_1).f1))) ∧ w'.cell? (ad348.add ((x6_1).toNat * 3)) = some (.int .i64 ((rd_T65 l1 x6_1).f0)) ∧ w'.cell? ⟨(ad348.add ((x6_1).toNat * 3)).block, (ad348.add ((x6_1).toNat * 3)).off + 1, none⟩ = some (.int .i64 ((rd_T65 l1 x6_1).f1)) ∧ w'.cell? ⟨(ad348.add ((x6_1).toNat * 3)).block, (ad348.add ((x6_1).toNat * 3)).off + 2, none⟩ = some (.int .i64 ((rd_T65 l1 x6_1).f2))) (ds := [15]) #[false, false, false, false, false, false, false, false, false, false, false, false, false, false, false, false] z4_ rfl rfl ⟨((HB.out.cell (World.block_lt_of_cell? _ _ hw352_0)).trans hw352_0), ((HB.out.cell (World.block_lt_of_cell? _ _ hw352_1)).trans hw352_1), ((HB.out.cell (World.block_lt_of_cell? _ _ hw352_2)).trans hw352_2), hx353_0, ((HB.out.cell (World.block_lt_of_cell? _ _ hw354_0)).trans hw354_0), ((HB.out.cell (World.block_lt_of_cell? _ _ hw354_1)).trans hw354_1), ((HB.out.cell (World.block_lt_of_cell? _ _ hw354_2)).trans hw354_2)⟩ (fun hHeld => ?_); refine with_tabW spec_l02Nets.tab6 spec_l02Nets.bits6 (fun HT_ HW_ => ?_); generalize w18.drew = w19 at HO_5 HB HQ17 HQ20 hf14_0 hx14_0 hx352_0 hx352_1 hx352_2 hx353_0 hx354_0 hx354_1 hx354_2 hHeld ⊢; refine pure_ (i := 0) (N := some 30) (v := ?_) (a' := ?_) #[true, false, false, false, false, false, false, false, false, false, false, false, false, false, false, false] rfl rfl (any_of HT_.out z4_) (fun _ _ _ h => h) (Or.inl ⟨by rfl, ?_⟩) ?_ ?_; rotate_left
                      · intro w'; go_simp; with_reducible rfl
                      rotate_left
                      · simp only [Act.put, List.setIfInBounds_toArray, List.set_cons_zero, List.set_cons_succ, i64_w, i32_w]; rfl
                      refine pure_ (i := 1) (N := some 31) (v := ?_) (a' := ?_) #[true, true, false, false, false, false, false, false, false, false, false, false, false, false, false, false] rfl rfl (any_of HT_.out z4_) (fun _ _ _ h => h) (Or.inl ⟨by rfl, ?_⟩) ?_ ?_; rotate_left
                      · intro w'; go_simp; with_reducible rfl
                      rotate_left
                      · simp only [Act.put, List.setIfInBounds_toArray, List.set_cons_zero, List.set_cons_succ, i64_w, i32_w]; rfl
                      refine pure_ (i := 2) (N := some 32) (v := ?_) (a' := ?_) #[true, true, true, false, false, false, false, false, false, false, false, false, false, false, false, false] rfl rfl (any_of HT_.out z4_) (fun _ _ _ h => h) (Or.inl ⟨by rfl, ?_⟩) ?_ ?_; rotate_left
                      · intro w'; go_simp; with_reducible rfl
                      rotate_left
                      · simp only [Act.put, List.setIfInBounds_toArray, List.set_cons_zero, List.set_cons_succ, i64_w, i32_w]; rfl
                      refine pure_ (i := 3) (N := some 33) (v := ?_) (a' := ?_) #[true, true, true, true, false, false, false, false, false, false, false, false, false, false, false, false] rfl rfl (any_of HT_.out z4_) (fun _ _ _ h => h) (Or.inl ⟨by rfl, ?_⟩) ?_ ?_; rotate_left
                      · intro w'; go_simp; with_reducible rfl
                      rotate_left
                      · simp only [Act.put, List.setIfInBounds_toArray, List.set_cons_zero, List.set_cons_succ, i64_w, i32_w]; rfl
                      refine pure_ (i := 4) (N := some 34) (v := ?_) (a' := ?_) #[true, true, true, true, true, false, false, false, false, false, false, false, false, false, false, false] rfl rfl (any_of HT_.out z4_) (fun _ _ _ h => h) (Or.inl ⟨by rfl, ?_⟩) ?_ ?_; rotate_left
                      · intro w'; go_simp; with_reducible rfl
                      rotate_left
                      · simp only [Act.put, List.setIfInBounds_toArray, List.set_cons_zero, List.set_cons_succ, i64_w, i32_w]; rfl
                      refine pure_ (i := 8) (N := some 38) (v := ?_) (a' := ?_) #[true, true, true, true, true, false, false, false, true, false, false, false, false, false, false, false] rfl rfl (any_of HT_.out z4_) (fun _ _ _ h => h) (Or.inl ⟨by rfl, ?_⟩) ?_ ?_; rotate_left
                      · intro w'; go_simp; with_reducible rfl
                      rotate_left
                      · simp only [Act.put, List.setIfInBounds_toArray, List.set_cons_zero, List.set_cons_succ, i64_w, i32_w]; rfl
                      refine pure_ (i := 9) (N := some 39) (v := ?_) (a' := ?_) #[true, true, true, true, true, false, false, false, true, true, false, false, false, false, false, false] rfl rfl (any_of HT_.out z4_) (fun _ _ _ h => h) (Or.inl ⟨by rfl, ?_⟩) ?_ ?_; rotate_left
                      · intro w'; go_simp; with_reducible rfl
                      rotate_left
                      · simp only [Act.put, List.setIfInBounds_toArray, List.set_cons_zero, List.set_cons_succ, i64_w, i32_w]; rfl
                      refine pure_ (i := 10) (N := some 40) (v := ?_) (a' := ?_) #[true, true, true, true, true, false, false, false, true, true, true, false, false, false, false, false] rfl rfl (any_of HT_.out z4_) (fun _ _ _ h => h) (Or.inl ⟨by rfl, ?_⟩) ?_ ?_; rotate_left
                      · intro w'; go_simp; with_reducible rfl
                      rotate_left
                      · simp only [Act.put, List.setIfInBounds_toArray, List.set_cons_zero, List.set_cons_succ, i64_w, i32_w]; rfl
                      refine pure_ (i := 11) (N := some 41) (v := ?_) (a' := ?_) #[true, true, true, true, true, false, false, false, true, true, true, true, false, false, false, false] rfl rfl (any_of HT_.out z4_) (fun _ _ _ h => h) (Or.inl ⟨by rfl, ?_⟩) ?_ ?_; rotate_left
                      · intro w'; go_simp; with_reducible rfl
                      rotate_left
                      · simp only [Act.put, List.setIfInBounds_toArray, List.set_cons_zero, List.set_cons_succ, i64_w, i32_w]; rfl
                      refine take_ (i := 5) (N := some 35) (v := ?_) (a' := ?_) #[true, true, true, true, true, true, false, false, true, true, true, true, false, false, false, false] rfl rfl (take_ofW HT_.out HW_.out z4_) (fun _ _ _ h => h) (Or.inl ⟨by rfl, ?_⟩) hHeld ?_ ?_; rotate_left
                      · rintro w' ⟨s0, s1, s2, s3, s4, s5, s6⟩; go_simp; with_reducible rfl
                      rotate_left
                      · simp only [Act.put, List.setIfInBounds_toArray, List.set_cons_zero, List.set_cons_succ, i64_w, i32_w]; rfl
                      refine pure_ (i := 6) (N := some 36) (v := ?_) (a' := ?_) #[true, true, true, true, true, true, true, false, true, true, true, true, false, false, false, false] rfl rfl (any_of HT_.out z4_) (fun _ _ _ h => h) (Or.inl ⟨by rfl, ?_⟩) ?_ ?_; rotate_left
                      · intro w'; go_simp; with_reducible rfl
                      rotate_left
                      · simp only [Act.put, List.setIfInBounds_toArray, List.set_cons_zero, List.set_cons_succ, i64_w, i32_w]; rfl
                      refine take_ (i := 7) (N := some 37) (v := ?_) (a' := ?_) #[true, true, true, true, true, true, true, true, true, true, true, true, false, false, false, false] rfl rfl (take_ofW HT_.out HW_.out z4_) (fun _ _ _ h => h) (Or.inl ⟨by rfl, ?_⟩) hHeld ?_ ?_; rotate_left
                      · rintro w' ⟨s0, s1, s2, s3, s4, s5, s6⟩; go_simp; with_reducible rfl
                      rotate_left
                      · simp only [Act.put, List.setIfInBounds_toArray, List.set_cons_zero, List.set_cons_succ, i64_w, i32_w]; rfl
                      refine take_ (i := 12) (N := some 42) (v := ?_) (a' := ?_) #[true, true, true, true, true, true, true, true, true, true, true, true, true, false, false, false] rfl rfl (take_ofW HT_.out HW_.out z4_) (fun _ _ _ h => h) (Or.inl ⟨by rfl, ?_⟩) hHeld ?_ ?_; rotate_left
                      · rintro w' ⟨s0, s1, s2, s3, s4, s5, s6⟩; go_simp; with_reducible rfl
                      rotate_left
                      · simp only [Act.put, List.setIfInBounds_toArray, List.set_cons_zero, List.set_cons_succ, i64_w, i32_w]; rfl
                      refine pure_ (i := 13) (N := some 43) (v := ?_) (a' := ?_) #[true, true, true, true, true, true, true, true, true, true, true, true, true, true, false, false] rfl rfl (any_of HT_.out z4_) (fun _ _ _ h => h) (Or.inl ⟨by rfl, ?_⟩) ?_ ?_; rotate_left
                      · intro w'; go_simp; with_reducible rfl
                      rotate_left
                      · simp only [Act.put, List.setIfInBounds_toArray, List.set_cons_zero, List.set_cons_succ, i64_w, i32_w]; rfl
                      refine pure_ (i := 14) (N := some 44) (v := ?_) (a' := ?_) #[true, true, true, true, true, true, true, true, true, true, true, true, true, true, true, false] rfl rfl (any_of HT_.out z4_) (fun _ _ _ h => h) (Or.inl ⟨by rfl, ?_⟩) ?_ ?_; rotate_left
                      · intro w'; go_simp; with_reducible rfl
                      rotate_left
                      · simp only [Act.put, List.setIfInBounds_toArray, List.set_cons_zero, List.set_cons_succ, i64_w, i32_w]; rfl
                      refine last_ (i := 15) (N := none) #[true, true, true, true, true, true, true, true, true, true, true, true, true, true, true, true] rfl rfl (one_of HT_.out z4_) (by decide) (fun K hK => ?_); refine skip_ (w1 := ?_) (by rfl) rfl ?_ ?_; rotate_left
                      · go_simp; rfl
                      refine hK.out _ _ ?_; clear hK K; refine done_ (done_of HT_.out z4_) ?_; (try go_wp2); go_roundg k1
                      case measure => have := HK1.out; omega
                      case rel => exact ⟨(y355), (wrap64 (x6_1 + 1)), z5_, H', ⟨z78_⟩, ⟨by (with_reducible repeat (first | apply Kd.R_alloc | apply Kd.R_drewN | apply Kd.R_drew)); exact HQ20.out⟩, ⟨by repeat (first | (with_reducible first | exact HB.out | apply below_alloc | apply pw_below_drewN | apply below_drew1 | refine below_set ?_ GB11.out) | exact HB.out)⟩⟩
                    · rw [if_neg c13] at H; exact absurd H (by simp)
                  · rw [if_neg c12] at H; exact absurd H (by simp)
                · rw [if_neg c10] at H; exact absurd H (by simp)
              · rw [if_neg c9] at H; exact absurd H (by simp)
            · rw [if_neg c8] at H; exact absurd H (by simp)
          · rw [if_neg c7] at H; have c7b0 : decide (x6_1 < (l1.length : Int)) = false := decide_eq_false c7; clear c7; obtain rfl := Option.some.inj H; go_wp2; go_ret; exact ⟨_, z3_, z46_, z0_⟩
    · rw [if_neg c4] at H; exact absurd H (by simp)
  · rw [if_neg c3] at H; exact absurd H (by simp)

/-! ### spec_NetsOf: function 49 -/
def spec_NetsOf.f (k : Nat) (a0 : Int) (l1 : List (S65)) : Option (List Int × Int) := (spec_l02Ok.f k a0 l1).bind fun t356 => (if t356 = true then ((spec_l02Nets.f k a0 l1).bind fun t357 => (some (t357, 0))) else (some ((([] : List Int)), 1)))
theorem spec_NetsOf.mono : ∀ a0 a1 k, LeO (spec_NetsOf.f k a0 a1) (spec_NetsOf.f (k + 1) a0 a1) := by
  intro a0 a1 k; unfold spec_NetsOf.f
  repeat' first
      | (with_reducible exact spec_l02Nets.mono _ _ _)
      | (with_reducible exact spec_l02Ok.mono _ _ _)
      | (with_reducible exact LeO.refl _)
      | (with_reducible exact LeO.none _)
      | (with_reducible refine LeO.ite ?_ ?_)
      | (with_reducible refine LeO.bind ?_ (fun _ => ?_))
      | exact spec_l02Nets.mono _ _ _
      | exact spec_l02Ok.mono _ _ _
      | exact LeO.none _
      | refine LeO.ite ?_ ?_
      | refine LeO.bind ?_ (fun _ => ?_)
set_option maxHeartbeats 8000000 in
set_option maxRecDepth 100000 in
theorem spec_NetsOf.calls (k : Nat) (a0 : Int) (A1 : Option Addr) (c1 : Nat) (l1 : List (S65)) (r1 : List Int) (r2 : Int) (w : World) (hr1 : Kd.C k65 w A1 l1.length l1) (hc1 : l1.length ≤ c1) (h : spec_NetsOf.f k a0 l1 = some (r1, r2)) :
    Calls Try.prog 49 #[.int .i64 a0, .slice A1 l1.length c1] w fun e w' => ∃ v0_ : Value, e = .returned (.tuple #[v0_, .int .i64 r2]) ∧ Kd.R (Kd.int .i64) 2 w' w.heap.size (fun _ => True) v0_ r1 ∧ Below w.heap.size w w' := by
  have HR1 := Aside0.mk hr1; have HC1 := Aside0.mk hc1; clear hr1 hc1; have HB := Aside0.mk (Below.refl w.heap.size w); have H : ((spec_l02Ok.f k a0 l1).bind fun t356 => (if t356 = true then ((spec_l02Nets.f k a0 l1).bind fun t357 => (some (t357, 0))) else (some ((([] : List Int)), 1)))) = some (r1, r2) := h; clear h; replace H := Option.bind_eq_some_iff.mp H; obtain ⟨t356, A30, H⟩ := H; replace H : (if t356 = true then ((spec_l02Nets.f k a0 l1).bind fun t357 => (some (t357, 0))) else (some ((([] : List Int)), 1))) = some (r1, r2) := H; have A3 := Aside0.mk A30; clear A30; by_cases c4 : t356 = true
  · subst c4; (have H1 : ((spec_l02Nets.f k a0 l1).bind fun t357 => (some (t357, 0))) = some (r1, r2) := z41_); clear H; have H := H1; clear H1; replace H := Option.bind_eq_some_iff.mp H; obtain ⟨t357, A50, H⟩ := H; replace H : (some (t357, 0)) = some (r1, r2) := H; have A5 := Aside0.mk A50; clear A50; simp only [Option.some.injEq, Prod.mk.injEq] at H; obtain ⟨rfl, rfl⟩ := H; go_enter Try.func49, Try.ntmps49; go_wp2_with (first | ((with_reducible refine gate_callee (f := 59) rfl ?_); refine goesL_ (some 8) rfl rfl Try.func59 z4_ rfl #[.int .i64 a0, .slice A1 l1.length c1] rfl z2_ ?_; (with_reducible refine (spec_l02Ok.calls k a0 _ _ l1 true _ ?side1 ?side2 A3.out).mono ?_); (case side1 => repeat (first | exact HR1.out | (with_reducible refine Kd.C_alloc ?_ _) | (with_reducible refine Kd.C_drewN ?_ _) | (with_reducible refine Kd.C_drew ?_))); (case side2 => exact HC1.out); rintro e w6 ⟨rfl, hb⟩; refine ⟨_, rfl, ?_⟩; have n0_ := Aside0.mk (below_step z0_ hb); clear HB; have HB := n0_; clear n0_; (try clear hb); (try clear hb2); (try clear hk); (try clear hi)) | ((with_reducible refine gate_callee (f := 74) rfl ?_); refine goesL_ (some 13) rfl rfl Try.func74 z4_ rfl #[.int .i64 a0, .slice A1 l1.length c1] rfl z2_ ?_; (with_reducible refine (spec_l02Nets.calls k a0 _ _ l1 t357 _ ?side1 ?side2 A5.out).mono ?_); (case side1 => repeat (first | exact (Kd.C_below HR1.out HB.out) | (with_reducible refine Kd.C_alloc ?_ _) | (with_reducible refine Kd.C_drewN ?_ _) | (with_reducible refine Kd.C_drew ?_))); (case side2 => exact HC1.out); rintro e w7 ⟨v358, rfl, ho0, hb⟩; refine ⟨_, rfl, ?_⟩; have n0_ := Aside0.mk (Kd.R_lower ho0 (below_size z0_)); have n1_ := Aside0.mk (below_step z0_ hb); clear HB; have HO359 := n0_; have HB := n1_; clear n0_ n1_; (try clear hb); (try clear hb2); (try clear hk); (try clear hi); (try clear ho0))); go_ret2; exact ⟨_, z3_, by (with_reducible repeat (first | apply Kd.R_alloc | apply Kd.R_drewN | apply Kd.R_drew)); exact HO359.out, z0_⟩
  · replace c4 := Bool.eq_false_iff.mpr c4; subst c4; (have H1 : (some ((([] : List Int)), 1)) = some (r1, r2) := z18_); clear H; have H := H1; clear H1; obtain ⟨y360, hy360⟩ : ∃ y_ : List Int, y_ = (([] : List Int)) := ⟨_, rfl⟩; (replace H : (some (y360, 1)) = some (r1, r2) := by first | (rw [hy360]; with_reducible exact H) | (have H2_ := (Option.bind_some _ _).symm.trans H; rw [hy360]; with_reducible exact H2_) | (have H2_ := (Option.bind_some _ _).symm.trans H; with_reducible exact H2_) | with_reducible exact H | (rw [hy360]; exact H) | exact H); have Ny360 := Aside0.mk hy360; clear hy360; simp only [Option.some.injEq, Prod.mk.injEq] at H; obtain ⟨rfl, rfl⟩ := H; go_enter Try.func49, Try.ntmps49; go_wp2_with (first | ((with_reducible refine gate_callee (f := 59) rfl ?_); refine goesL_ (some 8) rfl rfl Try.func59 z4_ rfl #[.int .i64 a0, .slice A1 l1.length c1] rfl z2_ ?_; (with_reducible refine (spec_l02Ok.calls k a0 _ _ l1 false _ ?side1 ?side2 A3.out).mono ?_); (case side1 => repeat (first | exact HR1.out | (with_reducible refine Kd.C_alloc ?_ _) | (with_reducible refine Kd.C_drewN ?_ _) | (with_reducible refine Kd.C_drew ?_))); (case side2 => exact HC1.out); rintro e w8 ⟨rfl, hb⟩; refine ⟨_, rfl, ?_⟩; have n0_ := Aside0.mk (below_step z0_ hb); clear HB; have HB := n0_; clear n0_; (try clear hb); (try clear hb2); (try clear hk); (try clear hi)) | ((with_reducible refine gate_dst (N := 10) rfl ?_); refine Kd.R_lit (Kd.int .i64) _ 2 ?hg (N := 10) ?hd (xs := ([] : List Int)) (inner := []) (ok := fun _ => True) (okp := fun _ => True) ?hr ?hp (fun _ hk => hk) trivial (Below.refl _ _) (Nat.le_refl _) (by simp) ?_; (case hd => rfl); (case hg => rfl); (case hr => first | (go_simp; done) | (go_simp; rfl)); (case hp => exact (Reps.none _ _)); intro v361 w9 ho10 hb hg_ hnew_; clear hg_ hnew_; (first | rw [← Ny360.out] at ho10 | (simp only [Int.reduceToNat] at ho10; rw [← Ny360.out] at ho10)); have n0_ := Aside0.mk (Kd.R_lower ho10 (below_size z0_)); have n1_ := Aside0.mk (below_step z0_ hb); clear HB; have HO362 := n0_; have HB := n1_; clear n0_ n1_; clear hb ho10)); go_ret2; exact ⟨_, z3_, by (with_reducible repeat (first | apply Kd.R_alloc | apply Kd.R_drewN | apply Kd.R_drew)); exact HO362.out, z0_⟩

end Go.Proofs.Ytofcgkcpkngocaa.MPaid
