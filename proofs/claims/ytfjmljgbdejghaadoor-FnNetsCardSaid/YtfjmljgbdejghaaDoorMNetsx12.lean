-- by a program of this session, for this claim
import Derived.Test.YtfjmljgbdejghaaDoorMNetsx0
import Derived.Test.YtfjmljgbdejghaaDoorMNetsx7
import Derived.Test.YtfjmljgbdejghaaDoorMNetsx9
import Derived.Test.YtfjmljgbdejghaaDoorMNetsx10
import Derived.Test.YtfjmljgbdejghaaDoorMNetsx11
namespace Go.Proofs.YtfjmljgbdejghaaDoor.MNets
open Go.RowKit Go.Proofs.YtfjmljgbdejghaaDoorW.PrintWords Go.Proofs.YtfjmljgbdejghaaDoorW.PrintLast Go.Proofs.YtfjmljgbdejghaaDoorW.PrintMore
attribute [local go_sem] max2_int min2_int max_two min_two max_three min_three max_four min_four   -- for this text's walks alone
set_option linter.unusedVariables false
set_option linter.unusedSimpArgs false

/-! ### spec_OffsetPairs: function 45 -/
mutual
def spec_OffsetPairs.l0 : Nat → Int → Vector Int 256 → Option ((List (S77)) × Int)
  | 0, _, _ => none
  | k + 1, x9, x314000 => if x9 < 16 then (spec_OffsetPairs.l1 k x9 0 x314000) else ((spec_l02List.f k x314000).bind fun bt322 => (some (bt322.1, bt322.2.1)))
def spec_OffsetPairs.l1 : Nat → Int → Int → Vector Int 256 → Option ((List (S77)) × Int)
  | 0, _, _, _ => none
  | k + 1, x9, x10, x314000 => if x10 < x9 then (if 0 ≤ x9 then (if x9 < 16 then (if 0 ≤ x10 then (if x10 < 16 then ((spec_l00Min.f (Arr.vrd2 16 x314000 x9 x10) (Arr.vrd2 16 x314000 x10 x9)).bind fun t327 => ((some (Arr.vst2 16 x314000 x9 x10 (wrap64 ((Arr.vrd2 16 x314000 x9 x10) - t327)) : Vector Int 256)).bind fun y328 => (spec_OffsetPairs.l1 k x9 (wrap64 (x10 + 1)) (Arr.vst2 16 y328 x10 x9 (wrap64 ((Arr.vrd2 16 y328 x10 x9) - t327)))))) else (none)) else (none)) else (none)) else (none)) else (spec_OffsetPairs.l0 k (wrap64 (x9 + 1)) x314000)
end
def spec_OffsetPairs.f (k : Nat) (a0 : Int) (l1 : List (S77)) : Option ((List (S77)) × Int) := (spec_l02Ok.f k a0 l1).bind fun t308 => (if t308 = true then ((spec_l02Sums.f k l1).bind fun t312 => ((spec_l02List.f k t312).bind fun bt314 => (if bt314.2.1 = 0 then (spec_OffsetPairs.l0 k 0 bt314.2.2) else (some ((([] : List (S77))), bt314.2.1))))) else (some ((([] : List (S77))), 1)))
theorem spec_OffsetPairs.mono_l : ∀ k, (∀ y0 y1, LeO (spec_OffsetPairs.l0 k y0 y1) (spec_OffsetPairs.l0 (k + 1) y0 y1)) ∧ (∀ y0 y1 y2, LeO (spec_OffsetPairs.l1 k y0 y1 y2) (spec_OffsetPairs.l1 (k + 1) y0 y1 y2))
  | 0 => ⟨fun _ _ r h => by simp [spec_OffsetPairs.l0] at h, fun _ _ _ r h => by simp [spec_OffsetPairs.l1] at h⟩
  | k + 1 => by
    obtain ⟨ih0, ih1⟩ := spec_OffsetPairs.mono_l k
    refine ⟨?_, ?_⟩
    · intro y0 y1
      unfold spec_OffsetPairs.l0
      repeat' first
      | (with_reducible exact ih0 _ _)
      | (with_reducible exact ih1 _ _ _)
      | (with_reducible exact spec_l02List.mono _ _)
      | (with_reducible exact spec_l02Ok.mono _ _ _)
      | (with_reducible exact spec_l02Sums.mono _ _)
      | (with_reducible exact LeO.refl _)
      | (with_reducible exact LeO.none _)
      | (with_reducible refine LeO.ite ?_ ?_)
      | (with_reducible refine LeO.bind ?_ (fun _ => ?_))
      | exact ih0 _ _
      | exact ih1 _ _ _
      | exact spec_l02List.mono _ _
      | exact spec_l02Ok.mono _ _ _
      | exact spec_l02Sums.mono _ _
      | exact LeO.none _
      | refine LeO.ite ?_ ?_
      | refine LeO.bind ?_ (fun _ => ?_)
    · intro y0 y1 y2
      unfold spec_OffsetPairs.l1
      repeat' first
      | (with_reducible exact ih0 _ _)
      | (with_reducible exact ih1 _ _ _)
      | (with_reducible exact spec_l02List.mono _ _)
      | (with_reducible exact spec_l02Ok.mono _ _ _)
      | (with_reducible exact spec_l02Sums.mono _ _)
      | (with_reducible exact LeO.refl _)
      | (with_reducible exact LeO.none _)
      | (with_reducible refine LeO.ite ?_ ?_)
      | (with_reducible refine LeO.bind ?_ (fun _ => ?_))
      | exact ih0 _ _
      | exact ih1 _ _ _
      | exact spec_l02List.mono _ _
      | exact spec_l02Ok.mono _ _ _
      | exact spec_l02Sums.mono _ _
      | exact LeO.none _
      | refine LeO.ite ?_ ?_
      | refine LeO.bind ?_ (fun _ => ?_)
theorem spec_OffsetPairs.mono : ∀ a0 a1 k, LeO (spec_OffsetPairs.f k a0 a1) (spec_OffsetPairs.f (k + 1) a0 a1) := by
  intro a0 a1 k; obtain ⟨ih0, ih1⟩ := spec_OffsetPairs.mono_l k; unfold spec_OffsetPairs.f
  repeat' first
      | (with_reducible exact ih0 _ _)
      | (with_reducible exact ih1 _ _ _)
      | (with_reducible exact spec_l02List.mono _ _)
      | (with_reducible exact spec_l02Ok.mono _ _ _)
      | (with_reducible exact spec_l02Sums.mono _ _)
      | (with_reducible exact LeO.refl _)
      | (with_reducible exact LeO.none _)
      | (with_reducible refine LeO.ite ?_ ?_)
      | (with_reducible refine LeO.bind ?_ (fun _ => ?_))
      | exact ih0 _ _
      | exact ih1 _ _ _
      | exact spec_l02List.mono _ _
      | exact spec_l02Ok.mono _ _ _
      | exact spec_l02Sums.mono _ _
      | exact LeO.none _
      | refine LeO.ite ?_ ?_
      | refine LeO.bind ?_ (fun _ => ?_)
def spec_OffsetPairs.T13 : Bool × List (List Nat × List Nat) := (true, [([], []), ([], []), ([], []), ([0], [0]), ([3, 1], [1, 3]), ([4, 2], [2, 4]), ([5], [5]), ([], []), ([], []), ([], []), ([7], [7]), ([10, 8], [8, 10]), ([11, 9], [9, 11]), ([12], [12]), ([6, 13], [6, 13]), ([14, 14, 0, 1, 2, 3, 4, 5, 6, 7, 8, 9, 10, 11, 12, 13, 14], [14])])
def spec_OffsetPairs.B13 : List Nat := [0, 0, 0, 1, 11, 31, 63, 0, 0, 0, 128, 1408, 3968, 8064, 16383, 32767]
theorem spec_OffsetPairs.tab13 : rtab .any (opsOf Tryd.f45 13) = spec_OffsetPairs.T13 := by kernel_rfl
theorem spec_OffsetPairs.bits13 : waitsOk spec_OffsetPairs.T13.2 spec_OffsetPairs.B13 = true := by kernel_rfl
def spec_OffsetPairs.T14 : Bool × List (List Nat × List Nat) := (true, [([], []), ([], []), ([], []), ([0], [0]), ([3, 1], [1, 3]), ([4, 2], [2, 4]), ([5], [5]), ([], []), ([6, 7], [6, 7]), ([0], [0]), ([9, 1], [1, 9]), ([10, 2, 0, 1, 2, 3, 4, 5, 6, 7, 8], [2, 10]), ([11, 8, 0, 1, 2, 3, 4, 5, 6, 7, 8], [8, 11])])
def spec_OffsetPairs.B14 : List Nat := [0, 0, 0, 1, 11, 31, 63, 0, 255, 1, 515, 2047, 4095]
theorem spec_OffsetPairs.tab14 : rtab .any (opsOf Tryd.f45 14) = spec_OffsetPairs.T14 := by kernel_rfl
theorem spec_OffsetPairs.bits14 : waitsOk spec_OffsetPairs.T14.2 spec_OffsetPairs.B14 = true := by kernel_rfl
def spec_OffsetPairs.T15 : Bool × List (List Nat × List Nat) := (true, [([], []), ([], []), ([], []), ([0], [0]), ([3, 1], [1, 3]), ([4, 2], [2, 4]), ([5], [5]), ([], []), ([6, 7], [6, 7]), ([0], [0]), ([9, 1], [1, 9]), ([10, 2, 0, 1, 2, 3, 4, 5, 6, 7, 8], [2, 10]), ([11, 8, 0, 1, 2, 3, 4, 5, 6, 7, 8], [8, 11])])
def spec_OffsetPairs.B15 : List Nat := [0, 0, 0, 1, 11, 31, 63, 0, 255, 1, 515, 2047, 4095]
theorem spec_OffsetPairs.tab15 : rtab .any (opsOf Tryd.f45 15) = spec_OffsetPairs.T15 := by kernel_rfl
theorem spec_OffsetPairs.bits15 : waitsOk spec_OffsetPairs.T15.2 spec_OffsetPairs.B15 = true := by kernel_rfl
set_option maxHeartbeats 8000000 in
set_option maxRecDepth 100000 in
theorem spec_OffsetPairs.calls (k : Nat) (a0 : Int) (A1 : Option Addr) (c1 : Nat) (l1 : List (S77)) (r1 : List (S77)) (r2 : Int) (w : World) (hr1 : Kd.C k77 w A1 l1.length l1) (hc1 : l1.length ≤ c1) (h : spec_OffsetPairs.f k a0 l1 = some (r1, r2)) :
    Calls Tryd.prog 45 #[.int .i64 a0, .slice A1 l1.length c1] w fun e w' => ∃ v0_ : Value, e = .returned (.tuple #[v0_, .int .i64 r2]) ∧ Kd.R k77 77 w' w.heap.size (fun _ => True) v0_ r1 ∧ Below w.heap.size w w' := by
  have HR1 := Aside0.mk hr1; have HC1 := Aside0.mk hc1; clear hr1 hc1; have HB := Aside0.mk (Below.refl w.heap.size w); have H : ((spec_l02Ok.f k a0 l1).bind fun t308 => (if t308 = true then ((spec_l02Sums.f k l1).bind fun t312 => ((spec_l02List.f k t312).bind fun bt314 => (if bt314.2.1 = 0 then (spec_OffsetPairs.l0 k 0 bt314.2.2) else (some ((([] : List (S77))), bt314.2.1))))) else (some ((([] : List (S77))), 1)))) = some (r1, r2) := h; clear h; replace H := Option.bind_eq_some_iff.mp H; obtain ⟨t308, A30, H⟩ := H; replace H : (if t308 = true then ((spec_l02Sums.f k l1).bind fun t312 => ((spec_l02List.f k t312).bind fun bt314 => (if bt314.2.1 = 0 then (spec_OffsetPairs.l0 k 0 bt314.2.2) else (some ((([] : List (S77))), bt314.2.1))))) else (some ((([] : List (S77))), 1))) = some (r1, r2) := H; have A3 := Aside0.mk A30; clear A30; by_cases c4 : t308 = true
  ·subst c4; (have H1 : ((spec_l02Sums.f k l1).bind fun t312 => ((spec_l02List.f k t312).bind fun bt314 => (if bt314.2.1 = 0 then (spec_OffsetPairs.l0 k 0 bt314.2.2) else (some ((([] : List (S77))), bt314.2.1))))) = some (r1, r2) := z39_); clear H; have H := H1; clear H1; replace H := Option.bind_eq_some_iff.mp H; obtain ⟨t312, A50, H⟩ := H; replace H : ((spec_l02List.f k t312).bind fun bt314 => (if bt314.2.1 = 0 then (spec_OffsetPairs.l0 k 0 bt314.2.2) else (some ((([] : List (S77))), bt314.2.1)))) = some (r1, r2) := H; have A5 := Aside0.mk A50; clear A50; replace H := Option.bind_eq_some_iff.mp H; obtain ⟨⟨t314, t317, t318⟩, A60, H⟩ := H; replace H : (if t317 = 0 then (spec_OffsetPairs.l0 k 0 t318) else (some ((([] : List (S77))), t317))) = some (r1, r2) := H; have A6 := Aside0.mk A60; clear A60; by_cases c7 : t317 = 0
   ·rw [if_pos c7] at H; have c7b0 : (t317 == 0) = true := beq_iff_eq.mpr c7; have c7b1 : (t317 != 0) = false := bne_eq_false_iff_eq.mpr c7; clear c7; have H' := Aside0.mk H; clear H; go_enter Tryd.func45, Tryd.ntmps45; go_wp2_with (first | ((with_reducible refine gate_callee (f := 58) rfl ?_); refine goesL_ (some 14) rfl rfl Tryd.func58 z4_ rfl #[.int .i64 a0, .slice A1 l1.length c1] rfl z1_ ?_; (with_reducible refine (spec_l02Ok.calls k a0 _ _ l1 true _ ?side1 ?side2 A3.out).mono ?_); (case side1 => repeat (first | exact HR1.out | (with_reducible refine Kd.C_alloc ?_ _) | (with_reducible refine Kd.C_drewN ?_ _) | (with_reducible refine Kd.C_drew ?_))); (case side2 => exact HC1.out); rintro e w8 ⟨rfl, hb⟩; refine ⟨_, rfl, ?_⟩; have n0_ := Aside0.mk (below_step z0_ hb); clear HB; have HB := n0_; clear n0_; (try clear hb); (try clear hb2); (try clear hk); (try clear hi)) | ((with_reducible refine gate_callee (f := 94) rfl ?_); refine goesL_ (some 18) rfl rfl Tryd.func94 z4_ rfl #[.slice A1 l1.length c1] rfl z1_ ?_; (with_reducible refine (spec_l02Sums.calls k _ _ l1 t312 w _ ?side1 ?side2 ?side3 A5.out).mono ?_); (case side1 => repeat (first | (with_reducible first | exact HB.out | apply below_alloc | apply pw_below_drewN | apply below_drew1) | exact HB.out)); (case side2 => exact HR1.out); (case side3 => exact HC1.out); rintro e w9 ⟨g313, rfl, hi, hb, hb2⟩; refine ⟨_, rfl, ?_⟩; have n0_ := Aside0.mk (hb); have n1_ := Aside0.mk (hi); clear HB; have HB := n0_; have HI313 := n1_; clear n0_ n1_; (try clear hb); (try clear hb2); (try clear hk); (try clear hi)) | ((with_reducible refine gate_callee (f := 93) rfl ?_); refine goesL_ (some 21) rfl rfl Tryd.func93 z4_ rfl #[.pointer (some ⟨g313, 0, none⟩)] rfl z1_ ?_; (with_reducible refine (spec_l02List.calls k g313 t312 t314 t317 t318 w _ ?side1 ?side2 A6.out).mono ?_); (case side1 => repeat (first | (with_reducible first | exact HI313.out | apply IsS146.alloc | apply IsS146.drewN | apply IsS146.drew | apply IsS146.set_0) | exact HI313.out)); (case side2 => repeat (first | (with_reducible first | exact HB.out | apply below_alloc | apply pw_below_drewN | apply below_drew1 | refine below_set ?_ (IsS146.ge HI313.out)) | exact HB.out)); rintro e w10 ⟨v315, rfl, ho0, hi, hb, hk⟩; refine ⟨_, rfl, ?_⟩; have n0_ := Aside0.mk (Kd.R_lower ho0 (below_size z11_)); have n1_ := Aside0.mk (hb); have n2_ := Aside0.mk (hi); clear HB; clear HI313; have HO316 := n0_; have HB := n1_; have HI313 := n2_; clear n0_ n1_ n2_; (try clear hb); (try clear hb2); (try clear hk); (try clear hi); (try clear ho0))); go_loopg [9] k (fun kq v9 w' => ∃ (x9_1 : Int) (x314000_1 : Vector Int 256), v9 = .int .i64 x9_1 ∧ Aside0 (spec_OffsetPairs.l0 kq x9_1 x314000_1 = some (r1, r2)) ∧ Aside0 (kq ≤ k) ∧ Aside0 (IsS146 w w' g313 x314000_1) ∧ Aside0 (Below w.heap.size w w'))
    case atStart => exact ⟨(0), (t318), z5_, H', ⟨Nat.le_refl _⟩, ⟨z21_⟩, ⟨z11_⟩⟩
    case round =>
      clear H'; (try clear c1); (try clear p2); (try clear c4); (try clear c5); (try clear c7); (try clear c7b0); (try clear c7b1); (try clear c9); obtain ⟨x9_1, x314000_1, rfl, HA, HK1, HI313, HB⟩ := hrel
      cases gk with
      | zero => exact absurd HA.out (by simp [spec_OffsetPairs.l0])
      | succ k1 =>
        have H := HA.out; clear HA; simp only [spec_OffsetPairs.l0] at H; by_cases c11 : x9_1 < 16
        ·rw [if_pos c11] at H; have c11b0 : decide (x9_1 < 16) = true := decide_eq_true c11; clear c11; have H' := Aside0.mk H; clear H; go_wp2; go_loopg [10] k1 (fun kq v10 w' => ∃ (x10_2 : Int) (x314000_2 : Vector Int 256), v10 = .int .i64 x10_2 ∧ Aside0 (spec_OffsetPairs.l1 kq x9_1 x10_2 x314000_2 = some (r1, r2)) ∧ Aside0 (kq ≤ k1) ∧ Aside0 (IsS146 w w' g313 x314000_2) ∧ Aside0 (Below w.heap.size w w'))
         case atStart => exact ⟨(0), (x314000_1), z5_, H', ⟨Nat.le_refl _⟩, ⟨z21_⟩, ⟨z11_⟩⟩
         case round =>
           clear H'; (try clear c1); (try clear p2); (try clear c4); (try clear c5); (try clear c7); (try clear c7b0); (try clear c7b1); (try clear c9); (try clear c11); (try clear c11b0); (try clear p2); obtain ⟨x10_2, x314000_2, rfl, HA, HK2, HI313, HB⟩ := hrel
           cases gk with
           | zero => exact absurd HA.out (by simp [spec_OffsetPairs.l1])
           | succ k2 =>
             have H := HA.out; clear HA; simp only [spec_OffsetPairs.l1] at H; by_cases c12 : x10_2 < x9_1
             ·rw [if_pos c12] at H; have c12b0 : decide (x10_2 < x9_1) = true := decide_eq_true c12; clear c12; by_cases c13 : 0 ≤ x9_1
              ·rw [if_pos c13] at H; have c13b0 : decide (0 ≤ x9_1) = true := decide_eq_true c13; clear c13; by_cases c14 : x9_1 < 16
               ·rw [if_pos c14] at H; have c14b0 : decide (x9_1 < 16) = true := decide_eq_true c14; clear c14; by_cases c16 : 0 ≤ x10_2
                ·rw [if_pos c16] at H; have c16b0 : decide (0 ≤ x10_2) = true := decide_eq_true c16; clear c16; by_cases c17 : x10_2 < 16
                 ·rw [if_pos c17] at H; have c17b0 : decide (x10_2 < 16) = true := decide_eq_true c17; clear c17; replace H := Option.bind_eq_some_iff.mp H; obtain ⟨t327, A230, H⟩ := H; replace H : ((some (Arr.vst2 16 x314000_2 x9_1 x10_2 (wrap64 ((Arr.vrd2 16 x314000_2 x9_1 x10_2) - t327)) : Vector Int 256)).bind fun y328 => (spec_OffsetPairs.l1 k2 x9_1 (wrap64 (x10_2 + 1)) (Arr.vst2 16 y328 x10_2 x9_1 (wrap64 ((Arr.vrd2 16 y328 x10_2 x9_1) - t327))))) = some (r1, r2) := H; have A23 := Aside0.mk A230; clear A230; obtain ⟨y328, hy328⟩ : ∃ y_ : Vector Int 256, y_ = (Arr.vst2 16 x314000_2 x9_1 x10_2 (wrap64 ((Arr.vrd2 16 x314000_2 x9_1 x10_2) - t327))) := ⟨_, rfl⟩; (replace H : (spec_OffsetPairs.l1 k2 x9_1 (wrap64 (x10_2 + 1)) (Arr.vst2 16 y328 x10_2 x9_1 (wrap64 ((Arr.vrd2 16 y328 x10_2 x9_1) - t327)))) = some (r1, r2) := by first | (rw [hy328]; with_reducible exact H) | (have H2_ := (Option.bind_some _ _).symm.trans H; rw [hy328]; with_reducible exact H2_) | (have H2_ := (Option.bind_some _ _).symm.trans H; with_reducible exact H2_) | with_reducible exact H | (rw [hy328]; exact H) | exact H); have Ny328 := Aside0.mk hy328; clear hy328; obtain ⟨y329, hy329⟩ : ∃ y_ : Vector Int 256, y_ = (Arr.vst2 16 y328 x10_2 x9_1 (wrap64 ((Arr.vrd2 16 y328 x10_2 x9_1) - t327))) := ⟨_, rfl⟩; (replace H : (spec_OffsetPairs.l1 k2 x9_1 (wrap64 (x10_2 + 1)) y329) = some (r1, r2) := by first | (rw [hy329]; with_reducible exact H) | (have H2_ := (Option.bind_some _ _).symm.trans H; rw [hy329]; with_reducible exact H2_) | (have H2_ := (Option.bind_some _ _).symm.trans H; with_reducible exact H2_) | with_reducible exact H | (rw [hy329]; exact H) | exact H); have Ny329 := Aside0.mk hy329; clear hy329; have H' := Aside0.mk H; clear H; (try go_wp2); have n0_ := Aside0.mk (IsS146.drew HI313.out); have n1_ := Aside0.mk (below_drew1 HB.out); clear HI313; clear HB; have HI313 := n0_; have HB := n1_; clear n0_ n1_; have p15 : 0 ≤ (x9_1 : Int) := of_decide_eq_true z2_; have q15 : (x9_1 : Int) < 16 := of_decide_eq_true z2_; replace p15 := eq_true p15; replace q15 := eq_true q15; have p18 : 0 ≤ (x10_2 : Int) := of_decide_eq_true z2_; have q18 : (x10_2 : Int) < 16 := of_decide_eq_true z2_; replace p18 := eq_true p18; replace q18 := eq_true q18; have p20 : 0 ≤ (x10_2 : Int) := of_decide_eq_true z2_; have q20 : (x10_2 : Int) < 16 := of_decide_eq_true z2_; replace p20 := eq_true p20; replace q20 := eq_true q20; have p21 : 0 ≤ (x9_1 : Int) := of_decide_eq_true z2_; have q21 : (x9_1 : Int) < 16 := of_decide_eq_true z2_; replace p21 := eq_true p21; replace q21 := eq_true q21; refine start_ (n := 16) (S := fun w' => w'.cell? ⟨g313, x9_1.toNat * 16 + x10_2.toNat, none⟩ = some (.int .i64 (Arr.vrd2 16 x314000_2 x9_1 x10_2)) ∧ w'.cell? ⟨g313, x10_2.toNat * 16 + x9_1.toNat, none⟩ = some (.int .i64 (Arr.vrd2 16 x314000_2 x10_2 x9_1))) (ds := []) #[false, false, false, false, false, false, false, false, false, false, false, false, false, false, false, false] z4_ rfl rfl ⟨(Arr.cellN (off := 0) (l := (Arr.arL .i64 x314000_2)) ((HI313.out).1) rfl (x9_1.toNat * 16 + x10_2.toNat) (x9_1.toNat * 16 + x10_2.toNat) (by omega) z64_), (Arr.cellN (off := 0) (l := (Arr.arL .i64 x314000_2)) ((HI313.out).1) rfl (x10_2.toNat * 16 + x9_1.toNat) (x10_2.toNat * 16 + x9_1.toNat) (by omega) z63_)⟩ (fun hHeld => ?_); refine with_tabW spec_OffsetPairs.tab13 spec_OffsetPairs.bits13 (fun HT_ HW_ => ?_); generalize wr.drew = w36 at HI313 HB hHeld ⊢; refine pure_ (i := 0) (N := some 37) (v := ?_) (a' := ?_) #[true, false, false, false, false, false, false, false, false, false, false, false, false, false, false, false] rfl rfl (any_of HT_.out z4_) (fun _ _ _ h => h) (Or.inl ⟨by rfl, ?_⟩) ?_ ?_; rotate_left
                  ·intro w'; go_simp; with_reducible rfl
                  rotate_left
                  ·simp only [Act.put, List.setIfInBounds_toArray, List.set_cons_zero, List.set_cons_succ, i64_w, i32_w]; rfl
                  refine pure_ (i := 1) (N := some 38) (v := ?_) (a' := ?_) #[true, true, false, false, false, false, false, false, false, false, false, false, false, false, false, false] rfl rfl (any_of HT_.out z4_) (fun _ _ _ h => h) (Or.inl ⟨by rfl, ?_⟩) ?_ ?_; rotate_left
                  ·intro w'; go_simp; with_reducible rfl
                  rotate_left
                  ·simp only [Act.put, List.setIfInBounds_toArray, List.set_cons_zero, List.set_cons_succ, i64_w, i32_w]; rfl
                  refine pure_ (i := 2) (N := some 39) (v := ?_) (a' := ?_) #[true, true, true, false, false, false, false, false, false, false, false, false, false, false, false, false] rfl rfl (any_of HT_.out z4_) (fun _ _ _ h => h) (Or.inl ⟨by rfl, ?_⟩) ?_ ?_; rotate_left
                  ·intro w'; go_simp; with_reducible rfl
                  rotate_left
                  ·simp only [Act.put, List.setIfInBounds_toArray, List.set_cons_zero, List.set_cons_succ, i64_w, i32_w]; rfl
                  refine pure_ (i := 3) (N := some 40) (v := ?_) (a' := ?_) #[true, true, true, true, false, false, false, false, false, false, false, false, false, false, false, false] rfl rfl (any_of HT_.out z4_) (fun _ _ _ h => h) (Or.inl ⟨by rfl, ?_⟩) ?_ ?_; rotate_left
                  ·intro w'; go_simp; with_reducible rfl
                  rotate_left
                  ·simp only [Act.put, List.setIfInBounds_toArray, List.set_cons_zero, List.set_cons_succ, i64_w, i32_w]; rfl
                  refine pure_ (i := 4) (N := some 41) (v := ?_) (a' := ?_) #[true, true, true, true, true, false, false, false, false, false, false, false, false, false, false, false] rfl rfl (any_of HT_.out z4_) (fun _ _ _ h => h) (Or.inl ⟨by rfl, ?_⟩) ?_ ?_; rotate_left
                  ·intro w'; go_simp; with_reducible rfl
                  rotate_left
                  ·simp only [Act.put, List.setIfInBounds_toArray, List.set_cons_zero, List.set_cons_succ, i64_w, i32_w]; rfl
                  refine pure_ (i := 5) (N := some 42) (v := ?_) (a' := ?_) #[true, true, true, true, true, true, false, false, false, false, false, false, false, false, false, false] rfl rfl (any_of HT_.out z4_) (fun _ _ _ h => h) (Or.inl ⟨by rfl, ?_⟩) ?_ ?_; rotate_left
                  ·intro w'; go_simp; with_reducible rfl
                  rotate_left
                  ·simp only [Act.put, List.setIfInBounds_toArray, List.set_cons_zero, List.set_cons_succ, i64_w, i32_w]; rfl
                  refine pure_ (i := 7) (N := some 44) (v := ?_) (a' := ?_) #[true, true, true, true, true, true, false, true, false, false, false, false, false, false, false, false] rfl rfl (any_of HT_.out z4_) (fun _ _ _ h => h) (Or.inl ⟨by rfl, ?_⟩) ?_ ?_; rotate_left
                  ·intro w'; go_simp; with_reducible rfl
                  rotate_left
                  ·simp only [Act.put, List.setIfInBounds_toArray, List.set_cons_zero, List.set_cons_succ, i64_w, i32_w]; rfl
                  refine pure_ (i := 8) (N := some 45) (v := ?_) (a' := ?_) #[true, true, true, true, true, true, false, true, true, false, false, false, false, false, false, false] rfl rfl (any_of HT_.out z4_) (fun _ _ _ h => h) (Or.inl ⟨by rfl, ?_⟩) ?_ ?_; rotate_left
                  ·intro w'; go_simp; with_reducible rfl
                  rotate_left
                  ·simp only [Act.put, List.setIfInBounds_toArray, List.set_cons_zero, List.set_cons_succ, i64_w, i32_w]; rfl
                  refine pure_ (i := 9) (N := some 46) (v := ?_) (a' := ?_) #[true, true, true, true, true, true, false, true, true, true, false, false, false, false, false, false] rfl rfl (any_of HT_.out z4_) (fun _ _ _ h => h) (Or.inl ⟨by rfl, ?_⟩) ?_ ?_; rotate_left
                  ·intro w'; go_simp; with_reducible rfl
                  rotate_left
                  ·simp only [Act.put, List.setIfInBounds_toArray, List.set_cons_zero, List.set_cons_succ, i64_w, i32_w]; rfl
                  refine pure_ (i := 10) (N := some 47) (v := ?_) (a' := ?_) #[true, true, true, true, true, true, false, true, true, true, true, false, false, false, false, false] rfl rfl (any_of HT_.out z4_) (fun _ _ _ h => h) (Or.inl ⟨by rfl, ?_⟩) ?_ ?_; rotate_left
                  ·intro w'; go_simp; with_reducible rfl
                  rotate_left
                  ·simp only [Act.put, List.setIfInBounds_toArray, List.set_cons_zero, List.set_cons_succ, i64_w, i32_w]; rfl
                  refine pure_ (i := 11) (N := some 48) (v := ?_) (a' := ?_) #[true, true, true, true, true, true, false, true, true, true, true, true, false, false, false, false] rfl rfl (any_of HT_.out z4_) (fun _ _ _ h => h) (Or.inl ⟨by rfl, ?_⟩) ?_ ?_; rotate_left
                  ·intro w'; go_simp; with_reducible rfl
                  rotate_left
                  ·simp only [Act.put, List.setIfInBounds_toArray, List.set_cons_zero, List.set_cons_succ, i64_w, i32_w]; rfl
                  refine pure_ (i := 12) (N := some 49) (v := ?_) (a' := ?_) #[true, true, true, true, true, true, false, true, true, true, true, true, true, false, false, false] rfl rfl (any_of HT_.out z4_) (fun _ _ _ h => h) (Or.inl ⟨by rfl, ?_⟩) ?_ ?_; rotate_left
                  ·intro w'; go_simp; with_reducible rfl
                  rotate_left
                  ·simp only [Act.put, List.setIfInBounds_toArray, List.set_cons_zero, List.set_cons_succ, i64_w, i32_w]; rfl
                  refine take_ (i := 6) (N := some 43) (v := ?_) (a' := ?_) #[true, true, true, true, true, true, true, true, true, true, true, true, true, false, false, false] rfl rfl (take_ofW HT_.out HW_.out z4_) (fun _ _ _ h => h) (Or.inl ⟨by rfl, ?_⟩) hHeld ?_ ?_; rotate_left
                  ·rintro w' ⟨s0, s1⟩; go_simp; with_reducible rfl
                  rotate_left
                  ·simp only [Act.put, List.setIfInBounds_toArray, List.set_cons_zero, List.set_cons_succ, i64_w, i32_w]; rfl
                  refine take_ (i := 13) (N := some 50) (v := ?_) (a' := ?_) #[true, true, true, true, true, true, true, true, true, true, true, true, true, true, false, false] rfl rfl (take_ofW HT_.out HW_.out z4_) (fun _ _ _ h => h) (Or.inl ⟨by rfl, ?_⟩) hHeld ?_ ?_; rotate_left
                  ·rintro w' ⟨s0, s1⟩; go_simp; with_reducible rfl
                  rotate_left
                  ·simp only [Act.put, List.setIfInBounds_toArray, List.set_cons_zero, List.set_cons_succ, i64_w, i32_w]; rfl
                  refine one_ (i := 14) (N := some 51) #[true, true, true, true, true, true, true, true, true, true, true, true, true, true, true, false] rfl rfl (one_of HT_.out z4_) (by decide) (fun K hK => ?_); refine goes_ Tryd.func95 z4_ rfl #[.int .i64 (Arr.vrd2 16 x314000_2 x9_1 x10_2), .int .i64 (Arr.vrd2 16 x314000_2 x10_2 x9_1)] (by rfl) rfl rfl z1_ ?_; (with_reducible refine (spec_l00Min.calls (Arr.vrd2 16 x314000_2 x9_1 x10_2) (Arr.vrd2 16 x314000_2 x10_2 x9_1) t327 _ A23.out).mono ?_); rintro e w37 ⟨rfl, hb⟩; refine ⟨_, rfl, ?_⟩; have n0_ := Aside0.mk (IsS146.below z21_ hb); have n1_ := Aside0.mk (below_step z11_ hb); clear HI313; clear HB; have HI313 := n0_; have HB := n1_; clear n0_ n1_; (try clear hb); (try clear hb2); (try clear hk); (try clear hi); refine hK.out _ _ ⟨(Arr.cellN (off := 0) (l := (Arr.arL .i64 x314000_2)) ((HI313.out).1) rfl (x9_1.toNat * 16 + x10_2.toNat) (x9_1.toNat * 16 + x10_2.toNat) (by omega) z64_), (Arr.cellN (off := 0) (l := (Arr.arL .i64 x314000_2)) ((HI313.out).1) rfl (x10_2.toNat * 16 + x9_1.toNat) (x10_2.toNat * 16 + x9_1.toNat) (by omega) z63_)⟩ (fun hHeld => ?_); clear hK K; refine norm_ (a' := ?_) ?_ ?_; rotate_left
                  ·show Act.put _ (some 51) _ = _; simp only [Act.put, List.setIfInBounds_toArray, List.set_cons_zero, List.set_cons_succ, i64_w, i32_w]; rfl
                  refine pure_ (i := 15) (N := some 11) (v := ?_) (a' := ?_) #[true, true, true, true, true, true, true, true, true, true, true, true, true, true, true, true] rfl rfl (any_of HT_.out z4_) (fun _ _ _ h => h) (Or.inl ⟨by rfl, ?_⟩) ?_ ?_; rotate_left
                  ·intro w'; go_simp; with_reducible rfl
                  rotate_left
                  ·simp only [Act.put, List.setIfInBounds_toArray, List.set_cons_zero, List.set_cons_succ, i64_w, i32_w]; rfl
                  refine done_ (done_of HT_.out z4_) ?_; (try go_wp2); have n0_ := Aside0.mk (IsS146.drew HI313.out); have n1_ := Aside0.mk (below_drew1 HB.out); clear HI313; clear HB; have HI313 := n0_; have HB := n1_; clear n0_ n1_; have p24 : 0 ≤ (x9_1 : Int) := of_decide_eq_true z2_; have q24 : (x9_1 : Int) < 16 := of_decide_eq_true z2_; replace p24 := eq_true p24; replace q24 := eq_true q24; have p25 : 0 ≤ (x10_2 : Int) := of_decide_eq_true z2_; have q25 : (x10_2 : Int) < 16 := of_decide_eq_true z2_; replace p25 := eq_true p25; replace q25 := eq_true q25; have p27 : 0 ≤ (x9_1 : Int) := of_decide_eq_true z2_; have q27 : (x9_1 : Int) < 16 := of_decide_eq_true z2_; replace p27 := eq_true p27; replace q27 := eq_true q27; have p28 : 0 ≤ (x10_2 : Int) := of_decide_eq_true z2_; have q28 : (x10_2 : Int) < 16 := of_decide_eq_true z2_; replace p28 := eq_true p28; replace q28 := eq_true q28; refine start_ (n := 13) (S := fun w' => w'.cell? ⟨g313, x9_1.toNat * 16 + x10_2.toNat, none⟩ = some (.int .i64 (Arr.vrd2 16 x314000_2 x9_1 x10_2))) (ds := [12]) #[false, false, false, false, false, false, false, false, false, false, false, false, false] z4_ rfl rfl ((Arr.cellN (off := 0) (l := (Arr.arL .i64 x314000_2)) ((HI313.out).1) rfl (x9_1.toNat * 16 + x10_2.toNat) (x9_1.toNat * 16 + x10_2.toNat) (by omega) (by have a0_ := of_eq_true p24; have b0_ := of_eq_true q24; have a1_ := of_eq_true p25; have b1_ := of_eq_true q25; omega))) (fun hHeld => ?_); refine with_tabW spec_OffsetPairs.tab14 spec_OffsetPairs.bits14 (fun HT_ HW_ => ?_); generalize w37.drew = w38 at HI313 HB hHeld ⊢; refine pure_ (i := 0) (N := some 52) (v := ?_) (a' := ?_) #[true, false, false, false, false, false, false, false, false, false, false, false, false] rfl rfl (any_of HT_.out z4_) (fun _ _ _ h => h) (Or.inl ⟨by rfl, ?_⟩) ?_ ?_; rotate_left
                  ·intro w'; go_simp; with_reducible rfl
                  rotate_left
                  ·simp only [Act.put, List.setIfInBounds_toArray, List.set_cons_zero, List.set_cons_succ, i64_w, i32_w]; rfl
                  refine pure_ (i := 1) (N := some 53) (v := ?_) (a' := ?_) #[true, true, false, false, false, false, false, false, false, false, false, false, false] rfl rfl (any_of HT_.out z4_) (fun _ _ _ h => h) (Or.inl ⟨by rfl, ?_⟩) ?_ ?_; rotate_left
                  ·intro w'; go_simp; with_reducible rfl
                  rotate_left
                  ·simp only [Act.put, List.setIfInBounds_toArray, List.set_cons_zero, List.set_cons_succ, i64_w, i32_w]; rfl
                  refine pure_ (i := 2) (N := some 54) (v := ?_) (a' := ?_) #[true, true, true, false, false, false, false, false, false, false, false, false, false] rfl rfl (any_of HT_.out z4_) (fun _ _ _ h => h) (Or.inl ⟨by rfl, ?_⟩) ?_ ?_; rotate_left
                  ·intro w'; go_simp; with_reducible rfl
                  rotate_left
                  ·simp only [Act.put, List.setIfInBounds_toArray, List.set_cons_zero, List.set_cons_succ, i64_w, i32_w]; rfl
                  refine pure_ (i := 3) (N := some 55) (v := ?_) (a' := ?_) #[true, true, true, true, false, false, false, false, false, false, false, false, false] rfl rfl (any_of HT_.out z4_) (fun _ _ _ h => h) (Or.inl ⟨by rfl, ?_⟩) ?_ ?_; rotate_left
                  ·intro w'; go_simp; with_reducible rfl
                  rotate_left
                  ·simp only [Act.put, List.setIfInBounds_toArray, List.set_cons_zero, List.set_cons_succ, i64_w, i32_w]; rfl
                  refine pure_ (i := 4) (N := some 56) (v := ?_) (a' := ?_) #[true, true, true, true, true, false, false, false, false, false, false, false, false] rfl rfl (any_of HT_.out z4_) (fun _ _ _ h => h) (Or.inl ⟨by rfl, ?_⟩) ?_ ?_; rotate_left
                  ·intro w'; go_simp; with_reducible rfl
                  rotate_left
                  ·simp only [Act.put, List.setIfInBounds_toArray, List.set_cons_zero, List.set_cons_succ, i64_w, i32_w]; rfl
                  refine pure_ (i := 5) (N := some 57) (v := ?_) (a' := ?_) #[true, true, true, true, true, true, false, false, false, false, false, false, false] rfl rfl (any_of HT_.out z4_) (fun _ _ _ h => h) (Or.inl ⟨by rfl, ?_⟩) ?_ ?_; rotate_left
                  ·intro w'; go_simp; with_reducible rfl
                  rotate_left
                  ·simp only [Act.put, List.setIfInBounds_toArray, List.set_cons_zero, List.set_cons_succ, i64_w, i32_w]; rfl
                  refine pure_ (i := 7) (N := some 59) (v := ?_) (a' := ?_) #[true, true, true, true, true, true, false, true, false, false, false, false, false] rfl rfl (any_of HT_.out z4_) (fun _ _ _ h => h) (Or.inl ⟨by rfl, ?_⟩) ?_ ?_; rotate_left
                  ·intro w'; go_simp; with_reducible rfl
                  rotate_left
                  ·simp only [Act.put, List.setIfInBounds_toArray, List.set_cons_zero, List.set_cons_succ, i64_w, i32_w]; rfl
                  refine pure_ (i := 9) (N := some 61) (v := ?_) (a' := ?_) #[true, true, true, true, true, true, false, true, false, true, false, false, false] rfl rfl (any_of HT_.out z4_) (fun _ _ _ h => h) (Or.inl ⟨by rfl, ?_⟩) ?_ ?_; rotate_left
                  ·intro w'; go_simp; with_reducible rfl
                  rotate_left
                  ·simp only [Act.put, List.setIfInBounds_toArray, List.set_cons_zero, List.set_cons_succ, i64_w, i32_w]; rfl
                  refine pure_ (i := 10) (N := some 62) (v := ?_) (a' := ?_) #[true, true, true, true, true, true, false, true, false, true, true, false, false] rfl rfl (any_of HT_.out z4_) (fun _ _ _ h => h) (Or.inl ⟨by rfl, ?_⟩) ?_ ?_; rotate_left
                  ·intro w'; go_simp; with_reducible rfl
                  rotate_left
                  ·simp only [Act.put, List.setIfInBounds_toArray, List.set_cons_zero, List.set_cons_succ, i64_w, i32_w]; rfl
                  refine take_ (i := 6) (N := some 58) (v := ?_) (a' := ?_) #[true, true, true, true, true, true, true, true, false, true, true, false, false] rfl rfl (take_ofW HT_.out HW_.out z4_) (fun _ _ _ h => h) (Or.inl ⟨by rfl, ?_⟩) hHeld ?_ ?_; rotate_left
                  ·intro w' s0; go_simp; with_reducible rfl
                  rotate_left
                  ·simp only [Act.put, List.setIfInBounds_toArray, List.set_cons_zero, List.set_cons_succ, i64_w, i32_w]; rfl
                  refine pure_ (i := 8) (N := some 60) (v := ?_) (a' := ?_) #[true, true, true, true, true, true, true, true, true, true, true, false, false] rfl rfl (any_of HT_.out z4_) (fun _ _ _ h => h) (Or.inl ⟨by rfl, ?_⟩) ?_ ?_; rotate_left
                  ·intro w'; go_simp; with_reducible rfl
                  rotate_left
                  ·simp only [Act.put, List.setIfInBounds_toArray, List.set_cons_zero, List.set_cons_succ, i64_w, i32_w]; rfl
                  refine pure_ (i := 11) (N := some 63) (v := ?_) (a' := ?_) #[true, true, true, true, true, true, true, true, true, true, true, true, false] rfl rfl (any_of HT_.out z4_) (fun _ _ _ h => h) (Or.inl ⟨by rfl, ?_⟩) ?_ ?_; rotate_left
                  ·intro w'; go_simp; with_reducible rfl
                  rotate_left
                  ·simp only [Act.put, List.setIfInBounds_toArray, List.set_cons_zero, List.set_cons_succ, i64_w, i32_w]; rfl
                  refine last_ (i := 12) (N := none) #[true, true, true, true, true, true, true, true, true, true, true, true, true] rfl rfl (one_of HT_.out z4_) (by decide) (fun K hK => ?_); have hx29 : w38.cell? ⟨g313, x9_1.toNat * 16 + x10_2.toNat, none⟩ = some (.int .i64 (Arr.vrd2 16 x314000_2 x9_1 x10_2)) := Arr.cellN (off := 0) (l := (Arr.arL .i64 x314000_2)) ((show IsS146 w w38 g313 x314000_2 from z21_).1) rfl (x9_1.toNat * 16 + x10_2.toNat) (x9_1.toNat * 16 + x10_2.toNat) (by omega) (by have a0_ := of_eq_true p27; have b0_ := of_eq_true q27; have a1_ := of_eq_true p28; have b1_ := of_eq_true q28; omega); have hf29 := blk_frozen ((show IsS146 w w38 g313 x314000_2 from z21_).1) (x9_1.toNat * 16 + x10_2.toNat); refine skip_ (w1 := w38.setCell ⟨g313, x9_1.toNat * 16 + x10_2.toNat, none⟩ (.int .i64 (wrap64 ((Arr.vrd2 16 x314000_2 x9_1 x10_2) - t327)))) (by rfl) rfl ?_ ?_
                  ·first | (go_simp; done) | (go_simp; rfl)
                  refine hK.out _ _ ?_; clear hK K; refine done_ (done_of HT_.out z4_) ?_; obtain ⟨w39, hw_, hbx, hg, hbe⟩ := Arr.stored_at (g := g313) (off := 0) (m := x9_1.toNat * 16 + x10_2.toNat) (n := x9_1.toNat * 16 + x10_2.toNat) (k := .i64) (y := (wrap64 ((Arr.vrd2 16 x314000_2 x9_1 x10_2) - t327))) (x := x314000_2) (t := 146) (pre := []) ((show IsS146 w w38 g313 x314000_2 from z21_).1) rfl (by omega); rw [hw_]; clear hw_; replace hbx : w39.heap[g313]? = some (.cells (⟨Arr.arL .i64 y328⟩ : Array Value) 146 (0, 0)) := (by rw [Ny328.out]; exact hbx); have n0_ := Aside0.mk ((⟨hbx, (HI313.out).2⟩ : IsS146 w w39 g313 y328)); have n1_ := Aside0.mk (hbe _ _ z11_ (IsS146.ge HI313.out)); clear HI313; clear HB; have HI313 := n0_; have HB := n1_; clear n0_ n1_; (try clear hbx hg hbe); (try go_wp2); have n0_ := Aside0.mk (IsS146.drew HI313.out); have n1_ := Aside0.mk (below_drew1 HB.out); clear HI313; clear HB; have HI313 := n0_; have HB := n1_; clear n0_ n1_; have p30 : 0 ≤ (x10_2 : Int) := of_decide_eq_true z2_; have q30 : (x10_2 : Int) < 16 := of_decide_eq_true z2_; replace p30 := eq_true p30; replace q30 := eq_true q30; have p31 : 0 ≤ (x9_1 : Int) := of_decide_eq_true z2_; have q31 : (x9_1 : Int) < 16 := of_decide_eq_true z2_; replace p31 := eq_true p31; replace q31 := eq_true q31; have p33 : 0 ≤ (x10_2 : Int) := of_decide_eq_true z2_; have q33 : (x10_2 : Int) < 16 := of_decide_eq_true z2_; replace p33 := eq_true p33; replace q33 := eq_true q33; have p34 : 0 ≤ (x9_1 : Int) := of_decide_eq_true z2_; have q34 : (x9_1 : Int) < 16 := of_decide_eq_true z2_; replace p34 := eq_true p34; replace q34 := eq_true q34; refine start_ (n := 13) (S := fun w' => w'.cell? ⟨g313, x10_2.toNat * 16 + x9_1.toNat, none⟩ = some (.int .i64 (Arr.vrd2 16 y328 x10_2 x9_1))) (ds := [12]) #[false, false, false, false, false, false, false, false, false, false, false, false, false] z4_ rfl rfl ((Arr.cellN (off := 0) (l := (Arr.arL .i64 y328)) ((HI313.out).1) rfl (x10_2.toNat * 16 + x9_1.toNat) (x10_2.toNat * 16 + x9_1.toNat) (by omega) (by have a0_ := of_eq_true p30; have b0_ := of_eq_true q30; have a1_ := of_eq_true p31; have b1_ := of_eq_true q31; omega))) (fun hHeld => ?_); refine with_tabW spec_OffsetPairs.tab15 spec_OffsetPairs.bits15 (fun HT_ HW_ => ?_); generalize w39.drew = w40 at HI313 HB hHeld ⊢; refine pure_ (i := 0) (N := some 64) (v := ?_) (a' := ?_) #[true, false, false, false, false, false, false, false, false, false, false, false, false] rfl rfl (any_of HT_.out z4_) (fun _ _ _ h => h) (Or.inl ⟨by rfl, ?_⟩) ?_ ?_; rotate_left
                  ·intro w'; go_simp; with_reducible rfl
                  rotate_left
                  ·simp only [Act.put, List.setIfInBounds_toArray, List.set_cons_zero, List.set_cons_succ, i64_w, i32_w]; rfl
                  refine pure_ (i := 1) (N := some 65) (v := ?_) (a' := ?_) #[true, true, false, false, false, false, false, false, false, false, false, false, false] rfl rfl (any_of HT_.out z4_) (fun _ _ _ h => h) (Or.inl ⟨by rfl, ?_⟩) ?_ ?_; rotate_left
                  ·intro w'; go_simp; with_reducible rfl
                  rotate_left
                  ·simp only [Act.put, List.setIfInBounds_toArray, List.set_cons_zero, List.set_cons_succ, i64_w, i32_w]; rfl
                  refine pure_ (i := 2) (N := some 66) (v := ?_) (a' := ?_) #[true, true, true, false, false, false, false, false, false, false, false, false, false] rfl rfl (any_of HT_.out z4_) (fun _ _ _ h => h) (Or.inl ⟨by rfl, ?_⟩) ?_ ?_; rotate_left
                  ·intro w'; go_simp; with_reducible rfl
                  rotate_left
                  ·simp only [Act.put, List.setIfInBounds_toArray, List.set_cons_zero, List.set_cons_succ, i64_w, i32_w]; rfl
                  refine pure_ (i := 3) (N := some 67) (v := ?_) (a' := ?_) #[true, true, true, true, false, false, false, false, false, false, false, false, false] rfl rfl (any_of HT_.out z4_) (fun _ _ _ h => h) (Or.inl ⟨by rfl, ?_⟩) ?_ ?_; rotate_left
                  ·intro w'; go_simp; with_reducible rfl
                  rotate_left
                  ·simp only [Act.put, List.setIfInBounds_toArray, List.set_cons_zero, List.set_cons_succ, i64_w, i32_w]; rfl
                  refine pure_ (i := 4) (N := some 68) (v := ?_) (a' := ?_) #[true, true, true, true, true, false, false, false, false, false, false, false, false] rfl rfl (any_of HT_.out z4_) (fun _ _ _ h => h) (Or.inl ⟨by rfl, ?_⟩) ?_ ?_; rotate_left
                  ·intro w'; go_simp; with_reducible rfl
                  rotate_left
                  ·simp only [Act.put, List.setIfInBounds_toArray, List.set_cons_zero, List.set_cons_succ, i64_w, i32_w]; rfl
                  refine pure_ (i := 5) (N := some 69) (v := ?_) (a' := ?_) #[true, true, true, true, true, true, false, false, false, false, false, false, false] rfl rfl (any_of HT_.out z4_) (fun _ _ _ h => h) (Or.inl ⟨by rfl, ?_⟩) ?_ ?_; rotate_left
                  ·intro w'; go_simp; with_reducible rfl
                  rotate_left
                  ·simp only [Act.put, List.setIfInBounds_toArray, List.set_cons_zero, List.set_cons_succ, i64_w, i32_w]; rfl
                  refine pure_ (i := 7) (N := some 71) (v := ?_) (a' := ?_) #[true, true, true, true, true, true, false, true, false, false, false, false, false] rfl rfl (any_of HT_.out z4_) (fun _ _ _ h => h) (Or.inl ⟨by rfl, ?_⟩) ?_ ?_; rotate_left
                  ·intro w'; go_simp; with_reducible rfl
                  rotate_left
                  ·simp only [Act.put, List.setIfInBounds_toArray, List.set_cons_zero, List.set_cons_succ, i64_w, i32_w]; rfl
                  refine pure_ (i := 9) (N := some 73) (v := ?_) (a' := ?_) #[true, true, true, true, true, true, false, true, false, true, false, false, false] rfl rfl (any_of HT_.out z4_) (fun _ _ _ h => h) (Or.inl ⟨by rfl, ?_⟩) ?_ ?_; rotate_left
                  ·intro w'; go_simp; with_reducible rfl
                  rotate_left
                  ·simp only [Act.put, List.setIfInBounds_toArray, List.set_cons_zero, List.set_cons_succ, i64_w, i32_w]; rfl
                  refine pure_ (i := 10) (N := some 74) (v := ?_) (a' := ?_) #[true, true, true, true, true, true, false, true, false, true, true, false, false] rfl rfl (any_of HT_.out z4_) (fun _ _ _ h => h) (Or.inl ⟨by rfl, ?_⟩) ?_ ?_; rotate_left
                  ·intro w'; go_simp; with_reducible rfl
                  rotate_left
                  ·simp only [Act.put, List.setIfInBounds_toArray, List.set_cons_zero, List.set_cons_succ, i64_w, i32_w]; rfl
                  refine take_ (i := 6) (N := some 70) (v := ?_) (a' := ?_) #[true, true, true, true, true, true, true, true, false, true, true, false, false] rfl rfl (take_ofW HT_.out HW_.out z4_) (fun _ _ _ h => h) (Or.inl ⟨by rfl, ?_⟩) hHeld ?_ ?_; rotate_left
                  ·intro w' s0; go_simp; with_reducible rfl
                  rotate_left
                  ·simp only [Act.put, List.setIfInBounds_toArray, List.set_cons_zero, List.set_cons_succ, i64_w, i32_w]; rfl
                  refine pure_ (i := 8) (N := some 72) (v := ?_) (a' := ?_) #[true, true, true, true, true, true, true, true, true, true, true, false, false] rfl rfl (any_of HT_.out z4_) (fun _ _ _ h => h) (Or.inl ⟨by rfl, ?_⟩) ?_ ?_; rotate_left
                  ·intro w'; go_simp; with_reducible rfl
                  rotate_left
                  ·simp only [Act.put, List.setIfInBounds_toArray, List.set_cons_zero, List.set_cons_succ, i64_w, i32_w]; rfl
                  refine pure_ (i := 11) (N := some 75) (v := ?_) (a' := ?_) #[true, true, true, true, true, true, true, true, true, true, true, true, false] rfl rfl (any_of HT_.out z4_) (fun _ _ _ h => h) (Or.inl ⟨by rfl, ?_⟩) ?_ ?_; rotate_left
                  ·intro w'; go_simp; with_reducible rfl
                  rotate_left
                  ·simp only [Act.put, List.setIfInBounds_toArray, List.set_cons_zero, List.set_cons_succ, i64_w, i32_w]; rfl
                  refine last_ (i := 12) (N := none) #[true, true, true, true, true, true, true, true, true, true, true, true, true] rfl rfl (one_of HT_.out z4_) (by decide) (fun K hK => ?_); have hx35 : w40.cell? ⟨g313, x10_2.toNat * 16 + x9_1.toNat, none⟩ = some (.int .i64 (Arr.vrd2 16 y328 x10_2 x9_1)) := Arr.cellN (off := 0) (l := (Arr.arL .i64 y328)) ((show IsS146 w w40 g313 y328 from z21_).1) rfl (x10_2.toNat * 16 + x9_1.toNat) (x10_2.toNat * 16 + x9_1.toNat) (by omega) (by have a0_ := of_eq_true p33; have b0_ := of_eq_true q33; have a1_ := of_eq_true p34; have b1_ := of_eq_true q34; omega); have hf35 := blk_frozen ((show IsS146 w w40 g313 y328 from z21_).1) (x10_2.toNat * 16 + x9_1.toNat); refine skip_ (w1 := w40.setCell ⟨g313, x10_2.toNat * 16 + x9_1.toNat, none⟩ (.int .i64 (wrap64 ((Arr.vrd2 16 y328 x10_2 x9_1) - t327)))) (by rfl) rfl ?_ ?_
                  ·first | (go_simp; done) | (go_simp; rfl)
                  refine hK.out _ _ ?_; clear hK K; refine done_ (done_of HT_.out z4_) ?_; obtain ⟨w41, hw_, hbx, hg, hbe⟩ := Arr.stored_at (g := g313) (off := 0) (m := x10_2.toNat * 16 + x9_1.toNat) (n := x10_2.toNat * 16 + x9_1.toNat) (k := .i64) (y := (wrap64 ((Arr.vrd2 16 y328 x10_2 x9_1) - t327))) (x := y328) (t := 146) (pre := []) ((show IsS146 w w40 g313 y328 from z21_).1) rfl (by omega); rw [hw_]; clear hw_; replace hbx : w41.heap[g313]? = some (.cells (⟨Arr.arL .i64 y329⟩ : Array Value) 146 (0, 0)) := (by rw [Ny329.out]; exact hbx); have n0_ := Aside0.mk ((⟨hbx, (HI313.out).2⟩ : IsS146 w w41 g313 y329)); have n1_ := Aside0.mk (hbe _ _ z11_ (IsS146.ge HI313.out)); clear HI313; clear HB; have HI313 := n0_; have HB := n1_; clear n0_ n1_; (try clear hbx hg hbe); (try go_wp2); go_roundg k2
                  case measure => have := HK1.out; have := HK2.out; omega
                  case rel => exact ⟨(wrap64 (x10_2 + 1)), (y329), z5_, H', ⟨z57_⟩, ⟨z21_⟩, ⟨z11_⟩⟩
                 ·rw [if_neg c17] at H; exact absurd H (by simp)
                ·rw [if_neg c16] at H; exact absurd H (by simp)
               ·rw [if_neg c14] at H; exact absurd H (by simp)
              ·rw [if_neg c13] at H; exact absurd H (by simp)
             ·rw [if_neg c12] at H; have c12b0 : decide (x10_2 < x9_1) = false := decide_eq_false c12; clear c12; have H' := Aside0.mk H; clear H; go_wp2; go_roundg k2
              case measure => have := HK1.out; have := HK2.out; omega
              case rel => exact ⟨(wrap64 (x9_1 + 1)), (x314000_2), z5_, H', ⟨z57_⟩, ⟨z21_⟩, ⟨z11_⟩⟩
        ·rw [if_neg c11] at H; have c11b0 : decide (x9_1 < 16) = false := decide_eq_false c11; clear c11; replace H := Option.bind_eq_some_iff.mp H; obtain ⟨⟨t322, t325, t326⟩, A420, H⟩ := H; replace H : (some (t322, t325)) = some (r1, r2) := H; have A42 := Aside0.mk A420; clear A420; simp only [Option.some.injEq, Prod.mk.injEq] at H; obtain ⟨rfl, rfl⟩ := H; go_wp2_with (first | ((with_reducible refine gate_callee (f := 93) rfl ?_); refine goesL_ (some 77) rfl rfl Tryd.func93 z4_ rfl #[.pointer (some ⟨g313, 0, none⟩)] rfl z1_ ?_; (with_reducible refine (spec_l02List.calls k1 g313 x314000_1 t322 t325 t326 w _ ?side1 ?side2 A42.out).mono ?_); (case side1 => repeat (first | (with_reducible first | exact HI313.out | apply IsS146.alloc | apply IsS146.drewN | apply IsS146.drew | apply IsS146.set_0) | exact HI313.out)); (case side2 => repeat (first | (with_reducible first | exact HB.out | apply below_alloc | apply pw_below_drewN | apply below_drew1 | refine below_set ?_ (IsS146.ge HI313.out)) | exact HB.out)); rintro e w43 ⟨v323, rfl, ho0, hi, hb, hk⟩; refine ⟨_, rfl, ?_⟩; have n0_ := Aside0.mk (Kd.R_lower ho0 (below_size z11_)); have n1_ := Aside0.mk (hb); have n2_ := Aside0.mk (hi); clear HB; clear HI313; have HO324 := n0_; have HB := n1_; have HI313 := n2_; clear n0_ n1_ n2_; (try clear hb); (try clear hb2); (try clear hk); (try clear hi); (try clear ho0))); go_ret2; exact ⟨_, z3_, by (with_reducible repeat (first | apply Kd.R_alloc | apply Kd.R_drewN | apply Kd.R_drew)); exact HO324.out, z11_⟩
   ·rw [if_neg c7] at H; have c7b0 : (t317 == 0) = false := beq_eq_false_iff_ne.mpr c7; have c7b1 : (t317 != 0) = true := bne_iff_ne.mpr c7; obtain ⟨y319, hy319⟩ : ∃ y_ : List (S77), y_ = (([] : List (S77))) := ⟨_, rfl⟩; (replace H : (some (y319, t317)) = some (r1, r2) := by first | (rw [hy319]; with_reducible exact H) | (have H2_ := (Option.bind_some _ _).symm.trans H; rw [hy319]; with_reducible exact H2_) | (have H2_ := (Option.bind_some _ _).symm.trans H; with_reducible exact H2_) | with_reducible exact H | (rw [hy319]; exact H) | exact H); have Ny319 := Aside0.mk hy319; clear hy319; simp only [Option.some.injEq, Prod.mk.injEq] at H; obtain ⟨rfl, rfl⟩ := H; go_enter Tryd.func45, Tryd.ntmps45; go_wp2_with (first | ((with_reducible refine gate_callee (f := 58) rfl ?_); refine goesL_ (some 14) rfl rfl Tryd.func58 z4_ rfl #[.int .i64 a0, .slice A1 l1.length c1] rfl z1_ ?_; (with_reducible refine (spec_l02Ok.calls k a0 _ _ l1 true _ ?side1 ?side2 A3.out).mono ?_); (case side1 => repeat (first | exact HR1.out | (with_reducible refine Kd.C_alloc ?_ _) | (with_reducible refine Kd.C_drewN ?_ _) | (with_reducible refine Kd.C_drew ?_))); (case side2 => exact HC1.out); rintro e w44 ⟨rfl, hb⟩; refine ⟨_, rfl, ?_⟩; have n0_ := Aside0.mk (below_step z0_ hb); clear HB; have HB := n0_; clear n0_; (try clear hb); (try clear hb2); (try clear hk); (try clear hi)) | ((with_reducible refine gate_callee (f := 94) rfl ?_); refine goesL_ (some 18) rfl rfl Tryd.func94 z4_ rfl #[.slice A1 l1.length c1] rfl z1_ ?_; (with_reducible refine (spec_l02Sums.calls k _ _ l1 t312 w _ ?side1 ?side2 ?side3 A5.out).mono ?_); (case side1 => repeat (first | (with_reducible first | exact HB.out | apply below_alloc | apply pw_below_drewN | apply below_drew1) | exact HB.out)); (case side2 => exact HR1.out); (case side3 => exact HC1.out); rintro e w45 ⟨g313, rfl, hi, hb, hb2⟩; refine ⟨_, rfl, ?_⟩; have n0_ := Aside0.mk (hb); have n1_ := Aside0.mk (hi); clear HB; have HB := n0_; have HI313 := n1_; clear n0_ n1_; (try clear hb); (try clear hb2); (try clear hk); (try clear hi)) | ((with_reducible refine gate_callee (f := 93) rfl ?_); refine goesL_ (some 21) rfl rfl Tryd.func93 z4_ rfl #[.pointer (some ⟨g313, 0, none⟩)] rfl z1_ ?_; (with_reducible refine (spec_l02List.calls k g313 t312 t314 t317 t318 w _ ?side1 ?side2 A6.out).mono ?_); (case side1 => repeat (first | (with_reducible first | exact HI313.out | apply IsS146.alloc | apply IsS146.drewN | apply IsS146.drew | apply IsS146.set_0) | exact HI313.out)); (case side2 => repeat (first | (with_reducible first | exact HB.out | apply below_alloc | apply pw_below_drewN | apply below_drew1 | refine below_set ?_ (IsS146.ge HI313.out)) | exact HB.out)); rintro e w46 ⟨v315, rfl, ho0, hi, hb, hk⟩; refine ⟨_, rfl, ?_⟩; have n0_ := Aside0.mk (Kd.R_lower ho0 (below_size z11_)); have n1_ := Aside0.mk (hb); have n2_ := Aside0.mk (hi); clear HB; clear HI313; have HO316 := n0_; have HB := n1_; have HI313 := n2_; clear n0_ n1_ n2_; (try clear hb); (try clear hb2); (try clear hk); (try clear hi); (try clear ho0)) | ((with_reducible refine gate_dst (N := 26) rfl ?_); refine Kd.R_lit k77 _ 77 ?hg (N := 26) ?hd (xs := ([] : List (S77))) (inner := []) (ok := fun _ => True) (okp := fun _ => True) ?hr ?hp (fun _ hk => hk) trivial (Below.refl _ _) (Nat.le_refl _) (by simp) ?_; (case hd => rfl); (case hg => rfl); (case hr => first | (go_simp; done) | (go_simp; rfl)); (case hp => exact (Reps.none _ _)); intro v320 w47 ho48 hb hg_ hnew_; clear hg_ hnew_; (first | rw [← Ny319.out] at ho48 | (simp only [Int.reduceToNat] at ho48; rw [← Ny319.out] at ho48)); have n0_ := Aside0.mk (Kd.R_elder' (by (with_reducible repeat (first | apply Kd.R_alloc | apply Kd.R_drewN | apply Kd.R_drew)); exact HO316.out) (Kd.R_base ho48) hb); have n1_ := Aside0.mk (Kd.R_lower (Kd.R_new' ho48 (Kd.R_lt (by (with_reducible repeat (first | apply Kd.R_alloc | apply Kd.R_drewN | apply Kd.R_drew)); exact HO316.out))) (below_size z11_)); have n2_ := Aside0.mk (IsS146.below z21_ hb); have n3_ := Aside0.mk (below_step z11_ hb); clear HO316; clear HI313; clear HB; have HO316 := n0_; have HO321 := n1_; have HI313 := n2_; have HB := n3_; clear n0_ n1_ n2_ n3_; clear hb ho48)); go_ret2; exact ⟨_, z3_, by (with_reducible repeat (first | apply Kd.R_alloc | apply Kd.R_drewN | apply Kd.R_drew)); exact Kd.R_mono HO321.out (fun _ hk => trivial), z11_⟩
  ·replace c4 := Bool.eq_false_iff.mpr c4; subst c4; (have H1 : (some ((([] : List (S77))), 1)) = some (r1, r2) := z17_); clear H; have H := H1; clear H1; obtain ⟨y309, hy309⟩ : ∃ y_ : List (S77), y_ = (([] : List (S77))) := ⟨_, rfl⟩; (replace H : (some (y309, 1)) = some (r1, r2) := by first | (rw [hy309]; with_reducible exact H) | (have H2_ := (Option.bind_some _ _).symm.trans H; rw [hy309]; with_reducible exact H2_) | (have H2_ := (Option.bind_some _ _).symm.trans H; with_reducible exact H2_) | with_reducible exact H | (rw [hy309]; exact H) | exact H); have Ny309 := Aside0.mk hy309; clear hy309; simp only [Option.some.injEq, Prod.mk.injEq] at H; obtain ⟨rfl, rfl⟩ := H; go_enter Tryd.func45, Tryd.ntmps45; go_wp2_with (first | ((with_reducible refine gate_callee (f := 58) rfl ?_); refine goesL_ (some 14) rfl rfl Tryd.func58 z4_ rfl #[.int .i64 a0, .slice A1 l1.length c1] rfl z1_ ?_; (with_reducible refine (spec_l02Ok.calls k a0 _ _ l1 false _ ?side1 ?side2 A3.out).mono ?_); (case side1 => repeat (first | exact HR1.out | (with_reducible refine Kd.C_alloc ?_ _) | (with_reducible refine Kd.C_drewN ?_ _) | (with_reducible refine Kd.C_drew ?_))); (case side2 => exact HC1.out); rintro e w49 ⟨rfl, hb⟩; refine ⟨_, rfl, ?_⟩; have n0_ := Aside0.mk (below_step z0_ hb); clear HB; have HB := n0_; clear n0_; (try clear hb); (try clear hb2); (try clear hk); (try clear hi)) | ((with_reducible refine gate_dst (N := 16) rfl ?_); refine Kd.R_lit k77 _ 77 ?hg (N := 16) ?hd (xs := ([] : List (S77))) (inner := []) (ok := fun _ => True) (okp := fun _ => True) ?hr ?hp (fun _ hk => hk) trivial (Below.refl _ _) (Nat.le_refl _) (by simp) ?_; (case hd => rfl); (case hg => rfl); (case hr => first | (go_simp; done) | (go_simp; rfl)); (case hp => exact (Reps.none _ _)); intro v310 w50 ho51 hb hg_ hnew_; clear hg_ hnew_; (first | rw [← Ny309.out] at ho51 | (simp only [Int.reduceToNat] at ho51; rw [← Ny309.out] at ho51)); have n0_ := Aside0.mk (Kd.R_lower ho51 (below_size z0_)); have n1_ := Aside0.mk (below_step z0_ hb); clear HB; have HO311 := n0_; have HB := n1_; clear n0_ n1_; clear hb ho51)); go_ret2; exact ⟨_, z3_, by (with_reducible repeat (first | apply Kd.R_alloc | apply Kd.R_drewN | apply Kd.R_drew)); exact HO311.out, z0_⟩

/-! ### spec_l00Same: function 96 -/
def spec_l00Same.l0 : Nat → List Int → List Int → Int → Option (Bool)
  | 0, _, _, _ => none
  | k + 1, x0, x1, x5 => if x5 < (x0.length : Int) then (if 0 ≤ x5 then (if x5 < (x1.length : Int) then (if (rd x0 x5) = (rd x1 x5) then (spec_l00Same.l0 k x0 x1 (wrap64 (x5 + 1))) else (some false)) else (none)) else (none)) else (some true)
def spec_l00Same.f (k : Nat) (l0 : List Int) (l1 : List Int) : Option (Bool) := if (l0.length : Int) = (l1.length : Int) then (spec_l00Same.l0 k l0 l1 0) else (some false)
theorem spec_l00Same.mono_l : ∀ k, (∀ y0 y1 y2, LeO (spec_l00Same.l0 k y0 y1 y2) (spec_l00Same.l0 (k + 1) y0 y1 y2))
  | 0 => fun _ _ _ r h => by simp [spec_l00Same.l0] at h
  | k + 1 => by
    have ih0 := spec_l00Same.mono_l k
    · intro y0 y1 y2
      unfold spec_l00Same.l0
      repeat' first
      | (with_reducible exact ih0 _ _ _)
      | (with_reducible exact LeO.refl _)
      | (with_reducible exact LeO.none _)
      | (with_reducible refine LeO.ite ?_ ?_)
      | (with_reducible refine LeO.bind ?_ (fun _ => ?_))
      | exact ih0 _ _ _
      | exact LeO.none _
      | refine LeO.ite ?_ ?_
      | refine LeO.bind ?_ (fun _ => ?_)
theorem spec_l00Same.mono : ∀ a0 a1 k, LeO (spec_l00Same.f k a0 a1) (spec_l00Same.f (k + 1) a0 a1) := by
  intro a0 a1 k; have ih0 := spec_l00Same.mono_l k; unfold spec_l00Same.f
  repeat' first
      | (with_reducible exact ih0 _ _ _)
      | (with_reducible exact LeO.refl _)
      | (with_reducible exact LeO.none _)
      | (with_reducible refine LeO.ite ?_ ?_)
      | (with_reducible refine LeO.bind ?_ (fun _ => ?_))
      | exact ih0 _ _ _
      | exact LeO.none _
      | refine LeO.ite ?_ ?_
      | refine LeO.bind ?_ (fun _ => ?_)
set_option maxHeartbeats 8000000 in
set_option maxRecDepth 100000 in
theorem spec_l00Same.calls (k : Nat) (A0 : Option Addr) (c0 : Nat) (l0 : List Int) (A1 : Option Addr) (c1 : Nat) (l1 : List Int) (r : Bool) (w : World) (hr0 : Kd.C (Kd.int .i64) w A0 l0.length l0) (hc0 : l0.length ≤ c0) (hr1 : Kd.C (Kd.int .i64) w A1 l1.length l1) (hc1 : l1.length ≤ c1) (h : spec_l00Same.f k l0 l1 = some r) :
    Calls Tryd.prog 96 #[.slice A0 l0.length c0, .slice A1 l1.length c1] w fun e w' => e = .returned (.bool r) ∧ Drawn0 w w' := by
  have HR0 := Aside0.mk hr0; have HC0 := Aside0.mk hc0; clear hr0 hc0; have HR1 := Aside0.mk hr1; have HC1 := Aside0.mk hc1; clear hr1 hc1; have H : (if (l0.length : Int) = (l1.length : Int) then (spec_l00Same.l0 k l0 l1 0) else (some false)) = some r := h; clear h; by_cases c3 : (l0.length : Int) = (l1.length : Int)
  ·rw [if_pos c3] at H; have c3b0 : ((l0.length : Int) == (l1.length : Int)) = true := beq_iff_eq.mpr c3; have c3b1 : ((l0.length : Int) != (l1.length : Int)) = false := bne_eq_false_iff_eq.mpr c3; (have c3b2 : (l0.length == l1.length) = true := z65_); clear c3; have H' := Aside0.mk H; clear H; go_enter Tryd.func96, Tryd.ntmps96; go_wp2; (repeat (go_quiet (fail); try go_wp2)); go_loopg [5] k (fun kq v5 w' => ∃ (x5_1 : Int), v5 = .int .i64 x5_1 ∧ Aside0 (spec_l00Same.l0 kq l0 l1 x5_1 = some r) ∧ Aside0 (kq ≤ k) ∧ Drawn0 w w')
   case atStart => exact ⟨(0), z5_, H', ⟨Nat.le_refl _⟩, z10_⟩
   case round =>
     clear H'; (try clear c1); (try clear p2); (try clear c3); (try clear c3b0); (try clear c3b1); (try clear c3b2); obtain ⟨x5_1, rfl, HA, HK1, ⟨m1, rfl⟩⟩ := hrel
     cases gk with
     | zero => exact absurd HA.out (by simp [spec_l00Same.l0])
     | succ k1 =>
       have H := HA.out; clear HA; simp only [spec_l00Same.l0] at H; by_cases c4 : x5_1 < (l0.length : Int)
       ·rw [if_pos c4] at H; have c4b0 : decide (x5_1 < (l0.length : Int)) = true := decide_eq_true c4; clear c4; by_cases c5 : 0 ≤ x5_1
        ·rw [if_pos c5] at H; have c5b0 : decide (0 ≤ x5_1) = true := decide_eq_true c5; clear c5; by_cases c6 : x5_1 < (l1.length : Int)
         ·rw [if_pos c6] at H; have c6b0 : decide (x5_1 < (l1.length : Int)) = true := decide_eq_true c6; clear c6; by_cases c7 : (rd l0 x5_1) = (rd l1 x5_1)
          ·rw [if_pos c7] at H; have c7b0 : ((rd l0 x5_1) == (rd l1 x5_1)) = true := beq_iff_eq.mpr c7; have c7b1 : ((rd l0 x5_1) != (rd l1 x5_1)) = false := bne_eq_false_iff_eq.mpr c7; clear c7; have H' := Aside0.mk H; clear H; have p330 : 0 ≤ (x5_1 : Int) := of_decide_eq_true z2_; have q330 : x5_1 < (l0.length : Int) := of_decide_eq_true z2_; obtain ⟨ad330, e330, hx330_0⟩ := Kd.at_int HR0.out x5_1 p330 q330; cases e330; replace p330 := eq_true p330; replace q330 := eq_true q330; have p331 : 0 ≤ (x5_1 : Int) := of_decide_eq_true z2_; have q331 : x5_1 < (l1.length : Int) := of_decide_eq_true z2_; obtain ⟨ad331, e331, hx331_0⟩ := Kd.at_int HR1.out x5_1 p331 q331; cases e331; replace p331 := eq_true p331; replace q331 := eq_true q331; go_wp2; (repeat (go_quiet (fail); try go_wp2)); go_roundg k1
           case measure => have := HK1.out; omega
           case rel => exact ⟨(wrap64 (x5_1 + 1)), z5_, H', ⟨z62_⟩, z10_⟩
          ·rw [if_neg c7] at H; have c7b0 : ((rd l0 x5_1) == (rd l1 x5_1)) = false := beq_eq_false_iff_ne.mpr c7; have c7b1 : ((rd l0 x5_1) != (rd l1 x5_1)) = true := bne_iff_ne.mpr c7; obtain rfl := Option.some.inj H; have p330 : 0 ≤ (x5_1 : Int) := of_decide_eq_true z2_; have q330 : x5_1 < (l0.length : Int) := of_decide_eq_true z2_; obtain ⟨ad330, e330, hx330_0⟩ := Kd.at_int HR0.out x5_1 p330 q330; cases e330; replace p330 := eq_true p330; replace q330 := eq_true q330; have p331 : 0 ≤ (x5_1 : Int) := of_decide_eq_true z2_; have q331 : x5_1 < (l1.length : Int) := of_decide_eq_true z2_; obtain ⟨ad331, e331, hx331_0⟩ := Kd.at_int HR1.out x5_1 p331 q331; cases e331; replace p331 := eq_true p331; replace q331 := eq_true q331; go_wp2; (repeat (go_quiet (fail); try go_wp2)); go_ret; exact ⟨z5_, z10_⟩
         ·rw [if_neg c6] at H; exact absurd H (by simp)
        ·rw [if_neg c5] at H; exact absurd H (by simp)
       ·rw [if_neg c4] at H; have c4b0 : decide (x5_1 < (l0.length : Int)) = false := decide_eq_false c4; clear c4; obtain rfl := Option.some.inj H; go_wp2; (repeat (go_quiet (fail); try go_wp2)); go_ret; exact ⟨z5_, z10_⟩
  ·rw [if_neg c3] at H; have c3b0 : ((l0.length : Int) == (l1.length : Int)) = false := beq_eq_false_iff_ne.mpr c3; have c3b1 : ((l0.length : Int) != (l1.length : Int)) = true := bne_iff_ne.mpr c3; (have c3b2 : (l0.length == l1.length) = false := z65_); obtain rfl := Option.some.inj H; go_enter Tryd.func96, Tryd.ntmps96; go_wp2; (repeat (go_quiet (fail); try go_wp2)); go_ret; exact ⟨z5_, z10_⟩

end Go.Proofs.YtfjmljgbdejghaaDoor.MNets
