-- by a program of this session, for this claim
import Derived.Test.YtofcgkcpkngocaaMPaidx0
import Derived.Test.YtofcgkcpkngocaaMPaidx2
import Derived.Test.YtofcgkcpkngocaaMPaidx4
import Derived.Test.YtofcgkcpkngocaaMPaidx6
import Derived.Test.YtofcgkcpkngocaaMPaidx7
namespace Go.Proofs.Ytofcgkcpkngocaa.MPaid
open Go.RowKit Go.Proofs.YtofcgkcpkngocaaW.PrintWords Go.Proofs.YtofcgkcpkngocaaW.PrintLast Go.Proofs.YtofcgkcpkngocaaW.PrintMore
attribute [local go_sem] max2_int min2_int max_two min_two max_three min_three max_four min_four   -- for this text's walks alone
set_option linter.unusedVariables false
set_option linter.unusedSimpArgs false

/-! ### spec_PassDebt: function 38 -/
mutual
def spec_PassDebt.j0 : Nat → List (S65) → Int → Int → Int → Int → Int → Bool → Option ((List (S65)) × Int)
  | 0, _, _, _, _, _, _, _ => none
  | k + 1, x1, x2, x3, x4, x5, x14, x28 => if x28 = true then (spec_PassDebt.j1 k x1 x2 x3 x4 x5 2) else (spec_PassDebt.j1 k x1 x2 x3 x4 x5 x14)
def spec_PassDebt.j1 : Nat → List (S65) → Int → Int → Int → Int → Int → Option ((List (S65)) × Int)
  | 0, _, _, _, _, _, _ => none
  | k + 1, x1, x2, x3, x4, x5, x14 => if x14 = 0 then ((spec_l02Sums.f k x1).bind fun t190 => (if x2 = x3 then (spec_PassDebt.j2 k x2 x3 x4 x5 true t190) else (if x3 = x4 then (spec_PassDebt.j2 k x2 x3 x4 x5 true t190) else (if 0 ≤ x2 then (if x2 < 16 then (if 0 ≤ x3 then (if x3 < 16 then (if 0 ≤ x4 then (if x4 < 16 then ((spec_l00Min.f (Arr.vrd2 16 t190 x2 x3) (Arr.vrd2 16 t190 x3 x4)).bind fun t192 => ((spec_l00In.f x5 1 t192).bind fun t193 => (spec_PassDebt.j2 k x2 x3 x4 x5 (!t193) t190))) else (none)) else (none)) else (none)) else (none)) else (none)) else (none))))) else (some ((([] : List (S65))), x14))
def spec_PassDebt.j2 : Nat → Int → Int → Int → Int → Bool → Vector Int 256 → Option ((List (S65)) × Int)
  | 0, _, _, _, _, _, _ => none
  | k + 1, x2, x3, x4, x5, x62, x192000 => if x62 = true then (some ((([] : List (S65))), 4)) else (if 0 ≤ x2 then (if x2 < 16 then (if 0 ≤ x3 then (if x3 < 16 then ((some (Arr.vst2 16 x192000 x2 x3 (wrap64 ((Arr.vrd2 16 x192000 x2 x3) - x5)) : Vector Int 256)).bind fun y197 => (if 0 ≤ x4 then (if x4 < 16 then ((some (Arr.vst2 16 y197 x3 x4 (wrap64 ((Arr.vrd2 16 y197 x3 x4) - x5)) : Vector Int 256)).bind fun y198 => (if x2 = x4 then ((spec_l02List.f k y198).bind fun bt199 => (some (bt199.1, bt199.2.1))) else ((spec_l02List.f k (Arr.vst2 16 y198 x2 x4 (wrap64 ((Arr.vrd2 16 y198 x2 x4) + x5)))).bind fun bt205 => (some (bt205.1, bt205.2.1))))) else (none)) else (none))) else (none)) else (none)) else (none)) else (none))
end
def spec_PassDebt.f (k : Nat) (a0 : Int) (l1 : List (S65)) (a2 : Int) (a3 : Int) (a4 : Int) (a5 : Int) : Option ((List (S65)) × Int) := (spec_l02Two.f k a0 l1 a2 a3).bind fun t185 => (if t185 = 0 then ((spec_l02Person.f a0 a4).bind fun t186 => (spec_PassDebt.j0 k l1 a2 a3 a4 a5 t185 (!t186))) else (spec_PassDebt.j0 k l1 a2 a3 a4 a5 t185 false))
theorem spec_PassDebt.mono_l : ∀ k, (∀ y0 y1 y2 y3 y4 y5 y6, LeO (spec_PassDebt.j0 k y0 y1 y2 y3 y4 y5 y6) (spec_PassDebt.j0 (k + 1) y0 y1 y2 y3 y4 y5 y6)) ∧ (∀ y0 y1 y2 y3 y4 y5, LeO (spec_PassDebt.j1 k y0 y1 y2 y3 y4 y5) (spec_PassDebt.j1 (k + 1) y0 y1 y2 y3 y4 y5)) ∧ (∀ y0 y1 y2 y3 y4 y5, LeO (spec_PassDebt.j2 k y0 y1 y2 y3 y4 y5) (spec_PassDebt.j2 (k + 1) y0 y1 y2 y3 y4 y5))
  | 0 => ⟨fun _ _ _ _ _ _ _ r h => by simp [spec_PassDebt.j0] at h, fun _ _ _ _ _ _ r h => by simp [spec_PassDebt.j1] at h, fun _ _ _ _ _ _ r h => by simp [spec_PassDebt.j2] at h⟩
  | k + 1 => by
    obtain ⟨ih0, ih1, ih2⟩ := spec_PassDebt.mono_l k
    refine ⟨?_, ?_, ?_⟩
    · intro y0 y1 y2 y3 y4 y5 y6
      unfold spec_PassDebt.j0
      repeat' first
      | (with_reducible exact ih0 _ _ _ _ _ _ _)
      | (with_reducible exact ih1 _ _ _ _ _ _)
      | (with_reducible exact ih2 _ _ _ _ _ _)
      | (with_reducible exact spec_l02List.mono _ _)
      | (with_reducible exact spec_l02Sums.mono _ _)
      | (with_reducible exact spec_l02Two.mono _ _ _ _ _)
      | (with_reducible exact LeO.refl _)
      | (with_reducible exact LeO.none _)
      | (with_reducible refine LeO.ite ?_ ?_)
      | (with_reducible refine LeO.bind ?_ (fun _ => ?_))
      | exact ih0 _ _ _ _ _ _ _
      | exact ih1 _ _ _ _ _ _
      | exact ih2 _ _ _ _ _ _
      | exact spec_l02List.mono _ _
      | exact spec_l02Sums.mono _ _
      | exact spec_l02Two.mono _ _ _ _ _
      | exact LeO.none _
      | refine LeO.ite ?_ ?_
      | refine LeO.bind ?_ (fun _ => ?_)
    · intro y0 y1 y2 y3 y4 y5
      unfold spec_PassDebt.j1
      repeat' first
      | (with_reducible exact ih0 _ _ _ _ _ _ _)
      | (with_reducible exact ih1 _ _ _ _ _ _)
      | (with_reducible exact ih2 _ _ _ _ _ _)
      | (with_reducible exact spec_l02List.mono _ _)
      | (with_reducible exact spec_l02Sums.mono _ _)
      | (with_reducible exact spec_l02Two.mono _ _ _ _ _)
      | (with_reducible exact LeO.refl _)
      | (with_reducible exact LeO.none _)
      | (with_reducible refine LeO.ite ?_ ?_)
      | (with_reducible refine LeO.bind ?_ (fun _ => ?_))
      | exact ih0 _ _ _ _ _ _ _
      | exact ih1 _ _ _ _ _ _
      | exact ih2 _ _ _ _ _ _
      | exact spec_l02List.mono _ _
      | exact spec_l02Sums.mono _ _
      | exact spec_l02Two.mono _ _ _ _ _
      | exact LeO.none _
      | refine LeO.ite ?_ ?_
      | refine LeO.bind ?_ (fun _ => ?_)
    · intro y0 y1 y2 y3 y4 y5
      unfold spec_PassDebt.j2
      repeat' first
      | (with_reducible exact ih0 _ _ _ _ _ _ _)
      | (with_reducible exact ih1 _ _ _ _ _ _)
      | (with_reducible exact ih2 _ _ _ _ _ _)
      | (with_reducible exact spec_l02List.mono _ _)
      | (with_reducible exact spec_l02Sums.mono _ _)
      | (with_reducible exact spec_l02Two.mono _ _ _ _ _)
      | (with_reducible exact LeO.refl _)
      | (with_reducible exact LeO.none _)
      | (with_reducible refine LeO.ite ?_ ?_)
      | (with_reducible refine LeO.bind ?_ (fun _ => ?_))
      | exact ih0 _ _ _ _ _ _ _
      | exact ih1 _ _ _ _ _ _
      | exact ih2 _ _ _ _ _ _
      | exact spec_l02List.mono _ _
      | exact spec_l02Sums.mono _ _
      | exact spec_l02Two.mono _ _ _ _ _
      | exact LeO.none _
      | refine LeO.ite ?_ ?_
      | refine LeO.bind ?_ (fun _ => ?_)
theorem spec_PassDebt.mono : ∀ a0 a1 a2 a3 a4 a5 k, LeO (spec_PassDebt.f k a0 a1 a2 a3 a4 a5) (spec_PassDebt.f (k + 1) a0 a1 a2 a3 a4 a5) := by
  intro a0 a1 a2 a3 a4 a5 k; obtain ⟨ih0, ih1, ih2⟩ := spec_PassDebt.mono_l k; unfold spec_PassDebt.f
  repeat' first
      | (with_reducible exact ih0 _ _ _ _ _ _ _)
      | (with_reducible exact ih1 _ _ _ _ _ _)
      | (with_reducible exact ih2 _ _ _ _ _ _)
      | (with_reducible exact spec_l02List.mono _ _)
      | (with_reducible exact spec_l02Sums.mono _ _)
      | (with_reducible exact spec_l02Two.mono _ _ _ _ _)
      | (with_reducible exact LeO.refl _)
      | (with_reducible exact LeO.none _)
      | (with_reducible refine LeO.ite ?_ ?_)
      | (with_reducible refine LeO.bind ?_ (fun _ => ?_))
      | exact ih0 _ _ _ _ _ _ _
      | exact ih1 _ _ _ _ _ _
      | exact ih2 _ _ _ _ _ _
      | exact spec_l02List.mono _ _
      | exact spec_l02Sums.mono _ _
      | exact spec_l02Two.mono _ _ _ _ _
      | exact LeO.none _
      | refine LeO.ite ?_ ?_
      | refine LeO.bind ?_ (fun _ => ?_)
def spec_PassDebt.T7 : Bool × List (List Nat × List Nat) := (true, [([], []), ([], []), ([0, 1], [0, 1]), ([2], [2]), ([3], [3]), ([3], [3]), ([4, 5, 3], [3, 4, 5]), ([3, 6], [3, 6]), ([7, 3], [7]), ([8], [8]), ([8], [8]), ([8], [8]), ([8], [8]), ([10, 8], [8, 10]), ([13, 11, 8], [8, 11, 13]), ([14, 12, 8], [8, 12, 14]), ([15, 8], [8, 15]), ([8], [8]), ([8], [8]), ([8], [8]), ([17, 8], [8, 17]), ([20, 18, 8], [8, 18, 20]), ([21, 19, 8], [8, 19, 21]), ([22, 8], [8, 22]), ([16, 23, 8, 8], [8, 16, 23]), ([9, 24, 24, 8], [8, 9, 24]), ([25, 8], [8, 25]), ([8, 26], [8, 26])])
def spec_PassDebt.B7 : List Nat := [0, 0, 3, 7, 15, 15, 63, 127, 255, 511, 511, 511, 511, 1535, 11775, 32255, 65023, 511, 511, 511, 131583, 1442303, 4063743, 8258047, 16776703, 33554431, 67108863, 134217727]
theorem spec_PassDebt.tab7 : rtab .any (opsOf Try.f38 7) = spec_PassDebt.T7 := by kernel_rfl
theorem spec_PassDebt.bits7 : waitsOk spec_PassDebt.T7.2 spec_PassDebt.B7 = true := by kernel_rfl
def spec_PassDebt.T9 : Bool × List (List Nat × List Nat) := (true, [([], []), ([], []), ([], []), ([0], [0]), ([3, 1], [1, 3]), ([4, 2], [2, 4]), ([5], [5]), ([], []), ([6, 7], [6, 7]), ([0], [0]), ([9, 1], [1, 9]), ([10, 2, 0, 1, 2, 3, 4, 5, 6, 7, 8], [2, 10]), ([11, 8, 0, 1, 2, 3, 4, 5, 6, 7, 8], [8, 11])])
def spec_PassDebt.B9 : List Nat := [0, 0, 0, 1, 11, 31, 63, 0, 255, 1, 515, 2047, 4095]
theorem spec_PassDebt.tab9 : rtab .any (opsOf Try.f38 9) = spec_PassDebt.T9 := by kernel_rfl
theorem spec_PassDebt.bits9 : waitsOk spec_PassDebt.T9.2 spec_PassDebt.B9 = true := by kernel_rfl
def spec_PassDebt.T10 : Bool × List (List Nat × List Nat) := (true, [([], []), ([], []), ([], []), ([0], [0]), ([3, 1], [1, 3]), ([4, 2], [2, 4]), ([5], [5]), ([], []), ([6, 7], [6, 7]), ([0], [0]), ([9, 1], [1, 9]), ([10, 2, 0, 1, 2, 3, 4, 5, 6, 7, 8], [2, 10]), ([11, 8, 0, 1, 2, 3, 4, 5, 6, 7, 8], [8, 11])])
def spec_PassDebt.B10 : List Nat := [0, 0, 0, 1, 11, 31, 63, 0, 255, 1, 515, 2047, 4095]
theorem spec_PassDebt.tab10 : rtab .any (opsOf Try.f38 10) = spec_PassDebt.T10 := by kernel_rfl
theorem spec_PassDebt.bits10 : waitsOk spec_PassDebt.T10.2 spec_PassDebt.B10 = true := by kernel_rfl
def spec_PassDebt.T12 : Bool × List (List Nat × List Nat) := (true, [([], []), ([], []), ([], []), ([0], [0]), ([3, 1], [1, 3]), ([4, 2], [2, 4]), ([5], [5]), ([], []), ([6, 7], [6, 7]), ([0], [0]), ([9, 1], [1, 9]), ([10, 2, 0, 1, 2, 3, 4, 5, 6, 7, 8], [2, 10]), ([11, 8, 0, 1, 2, 3, 4, 5, 6, 7, 8], [8, 11])])
def spec_PassDebt.B12 : List Nat := [0, 0, 0, 1, 11, 31, 63, 0, 255, 1, 515, 2047, 4095]
theorem spec_PassDebt.tab12 : rtab .any (opsOf Try.f38 12) = spec_PassDebt.T12 := by kernel_rfl
theorem spec_PassDebt.bits12 : waitsOk spec_PassDebt.T12.2 spec_PassDebt.B12 = true := by kernel_rfl
set_option maxHeartbeats 8000000 in
set_option maxRecDepth 100000 in
theorem spec_PassDebt.calls (k : Nat) (a0 : Int) (A1 : Option Addr) (c1 : Nat) (l1 : List (S65)) (a2 : Int) (a3 : Int) (a4 : Int) (a5 : Int) (r1 : List (S65)) (r2 : Int) (w : World) (hr1 : Kd.C k65 w A1 l1.length l1) (hc1 : l1.length ≤ c1) (h : spec_PassDebt.f k a0 l1 a2 a3 a4 a5 = some (r1, r2)) :
    Calls Try.prog 38 #[.int .i64 a0, .slice A1 l1.length c1, .int .i64 a2, .int .i64 a3, .int .i64 a4, .int .i64 a5] w fun e w' => ∃ v0_ : Value, e = .returned (.tuple #[v0_, .int .i64 r2]) ∧ Kd.R k65 65 w' w.heap.size (fun _ => True) v0_ r1 ∧ Below w.heap.size w w' := by
  have HR1 := Aside0.mk hr1; have HC1 := Aside0.mk hc1; clear hr1 hc1; have HB := Aside0.mk (Below.refl w.heap.size w); have H : ((spec_l02Two.f k a0 l1 a2 a3).bind fun t185 => (if t185 = 0 then ((spec_l02Person.f a0 a4).bind fun t186 => (spec_PassDebt.j0 k l1 a2 a3 a4 a5 t185 (!t186))) else (spec_PassDebt.j0 k l1 a2 a3 a4 a5 t185 false))) = some (r1, r2) := h; clear h; replace H := Option.bind_eq_some_iff.mp H; obtain ⟨t185, A70, H⟩ := H; replace H : (if t185 = 0 then ((spec_l02Person.f a0 a4).bind fun t186 => (spec_PassDebt.j0 k l1 a2 a3 a4 a5 t185 (!t186))) else (spec_PassDebt.j0 k l1 a2 a3 a4 a5 t185 false)) = some (r1, r2) := H; have A7 := Aside0.mk A70; clear A70; have HC8 := Aside0.mk H; clear H; go_enter Try.func38, Try.ntmps38; go_upto_region 2 with (first | ((with_reducible refine gate_callee (f := 53) rfl ?_); refine goesL_ (some 20) rfl rfl Try.func53 z4_ rfl #[.int .i64 a0, .slice A1 l1.length c1, .int .i64 a2, .int .i64 a3] rfl z2_ ?_; (with_reducible refine (spec_l02Two.calls k a0 _ _ l1 a2 a3 t185 _ ?side1 ?side2 A7.out).mono ?_); (case side1 => repeat (first | exact HR1.out | (with_reducible refine Kd.C_alloc ?_ _) | (with_reducible refine Kd.C_drewN ?_ _) | (with_reducible refine Kd.C_drew ?_))); (case side2 => exact HC1.out); rintro e w9 ⟨rfl, hb⟩; refine ⟨_, rfl, ?_⟩; have n0_ := Aside0.mk (below_step z0_ hb); clear HB; have HB := n0_; clear n0_; (try clear hb); (try clear hb2); (try clear hk); (try clear hi))); (try simp only [Act.put, List.setIfInBounds_toArray, List.set_cons_zero, List.set_cons_succ]); go_cut [28] (fun v28 wc => ∃ (kq : Nat) (x28_7 : Bool), v28 = .bool x28_7 ∧ Aside0 (spec_PassDebt.j0 kq l1 a2 a3 a4 a5 t185 x28_7 = some (r1, r2)) ∧ Aside0 (kq ≤ k) ∧ Aside0 (Below w.heap.size w wc))
  case first =>
    have H := HC8.out; clear HC8; by_cases c10 : t185 = 0
    · rw [if_pos c10] at H; have c10b0 : (t185 == 0) = true := beq_iff_eq.mpr c10; have c10b1 : (t185 != 0) = false := bne_eq_false_iff_eq.mpr c10; clear c10; (first | rw [c10b0] | (simp only [i64_w, i32_w]; rw [c10b0]) | skip); replace H := Option.bind_eq_some_iff.mp H; obtain ⟨t186, A110, H⟩ := H; replace H : (spec_PassDebt.j0 k l1 a2 a3 a4 a5 t185 (!t186)) = some (r1, r2) := H; have A11 := Aside0.mk A110; clear A110; have H' := Aside0.mk H; clear H; go_wp2_with (first | (go_at_call 66; (with_reducible refine (spec_l02Person.calls a0 a4 t186 _ A11.out).mono ?_); rintro e w' ⟨rfl, ⟨nd, rfl⟩⟩)); go_meet
      case rel => exact ⟨_, (!t186), z5_, H', ⟨z54_⟩, ⟨z0_⟩⟩
    · rw [if_neg c10] at H; have c10b0 : (t185 == 0) = false := beq_eq_false_iff_ne.mpr c10; have c10b1 : (t185 != 0) = true := bne_iff_ne.mpr c10; (first | rw [c10b0] | (simp only [i64_w, i32_w]; rw [c10b0]) | skip); have H' := Aside0.mk H; clear H; go_wp2; go_meet
      case rel => exact ⟨_, (false), z5_, H', ⟨z54_⟩, ⟨z0_⟩⟩
  case rest =>
    clear HC8; (try clear c1); (try clear p2); (try clear c3); (try clear c5); (try clear c10); (try clear c10b0); (try clear c10b1); obtain ⟨kq, x28_7, rfl, HA, HJ7, HB⟩ := hcut
    cases kq with
    | zero => exact absurd HA.out (by simp [spec_PassDebt.j0])
    | succ kj7 =>
      have H := HA.out; clear HA; simp only [spec_PassDebt.j0] at H; have HC12 := Aside0.mk H; clear H; go_upto_if 28 with (fail); go_cut [14] (fun v14 wc => ∃ (kq : Nat) (x14_11 : Int), v14 = .int .i64 x14_11 ∧ Aside0 (spec_PassDebt.j1 kq l1 a2 a3 a4 a5 x14_11 = some (r1, r2)) ∧ Aside0 (kq ≤ kj7) ∧ Aside0 (Below w.heap.size w wc))
      case first =>
        have H := HC12.out; clear HC12; by_cases c13 : x28_7 = true
        · subst c13; (have H1 : (spec_PassDebt.j1 kj7 l1 a2 a3 a4 a5 2) = some (r1, r2) := z41_); clear H; have H := H1; clear H1; have H' := Aside0.mk H; clear H; go_wp2; go_meet
          case rel => exact ⟨_, (2), z5_, H', ⟨by have := HJ7.out; first | omega | exact Nat.le_refl _⟩, ⟨z0_⟩⟩
        · replace c13 := Bool.eq_false_iff.mpr c13; subst c13; (have H1 : (spec_PassDebt.j1 kj7 l1 a2 a3 a4 a5 t185) = some (r1, r2) := z18_); clear H; have H := H1; clear H1; have H' := Aside0.mk H; clear H; go_wp2; go_meet
          case rel => exact ⟨_, (t185), z5_, H', ⟨by have := HJ7.out; first | omega | exact Nat.le_refl _⟩, ⟨z0_⟩⟩
      case rest =>
        clear HC12; (try clear c1); (try clear p2); (try clear c3); (try clear c5); (try clear c10); (try clear c10b0); (try clear c10b1); (try clear c13); (try clear p2); obtain ⟨kq, x14_11, rfl, HA, HJ11, HB⟩ := hcut
        cases kq with
        | zero => exact absurd HA.out (by simp [spec_PassDebt.j1])
        | succ kj11 =>
          have H := HA.out; clear HA; simp only [spec_PassDebt.j1] at H; by_cases c14 : x14_11 = 0
          · rw [if_pos c14] at H; have c14b0 : (x14_11 == 0) = true := beq_iff_eq.mpr c14; have c14b1 : (x14_11 != 0) = false := bne_eq_false_iff_eq.mpr c14; clear c14; replace H := Option.bind_eq_some_iff.mp H; obtain ⟨t190, A150, H⟩ := H; replace H : (if a2 = a3 then (spec_PassDebt.j2 kj11 a2 a3 a4 a5 true t190) else (if a3 = a4 then (spec_PassDebt.j2 kj11 a2 a3 a4 a5 true t190) else (if 0 ≤ a2 then (if a2 < 16 then (if 0 ≤ a3 then (if a3 < 16 then (if 0 ≤ a4 then (if a4 < 16 then ((spec_l00Min.f (Arr.vrd2 16 t190 a2 a3) (Arr.vrd2 16 t190 a3 a4)).bind fun t192 => ((spec_l00In.f a5 1 t192).bind fun t193 => (spec_PassDebt.j2 kj11 a2 a3 a4 a5 (!t193) t190))) else (none)) else (none)) else (none)) else (none)) else (none)) else (none)))) = some (r1, r2) := H; have A15 := Aside0.mk A150; clear A150; have HC16 := Aside0.mk H; clear H; go_upto_region 7 with (first | ((with_reducible refine gate_callee (f := 54) rfl ?_); refine goesL_ (some 34) rfl rfl Try.func54 z4_ rfl #[.slice A1 l1.length c1] rfl z2_ ?_; (with_reducible refine (spec_l02Sums.calls kj11 _ _ l1 t190 w _ ?side1 ?side2 ?side3 A15.out).mono ?_); (case side1 => repeat (first | (with_reducible first | exact HB.out | apply below_alloc | apply pw_below_drewN | apply below_drew1) | exact HB.out)); (case side2 => exact HR1.out); (case side3 => exact HC1.out); rintro e w17 ⟨g191, rfl, hi, hb, hb2⟩; refine ⟨_, rfl, ?_⟩; have n0_ := Aside0.mk (hb); have n1_ := Aside0.mk (hi); clear HB; have HB := n0_; have HI191 := n1_; clear n0_ n1_; (try clear hb); (try clear hb2); (try clear hk); (try clear hi))); (try simp only [Act.put, List.setIfInBounds_toArray, List.set_cons_zero, List.set_cons_succ]); go_cut [62] (fun v62 wc => ∃ (kq : Nat) (x62_15 : Bool), v62 = .bool x62_15 ∧ Aside0 (spec_PassDebt.j2 kq a2 a3 a4 a5 x62_15 t190 = some (r1, r2)) ∧ Aside0 (kq ≤ kj11) ∧ Aside0 (IsS92 w wc g191 t190) ∧ Aside0 (Below w.heap.size w wc))
            case first =>
              have H := HC16.out; clear HC16; by_cases c18 : a2 = a3
              · rw [if_pos c18] at H; have c18b0 : (a2 == a3) = true := beq_iff_eq.mpr c18; have c18b1 : (a2 != a3) = false := bne_eq_false_iff_eq.mpr c18; clear c18; (first | rw [c18b0] | (simp only [i64_w, i32_w]; rw [c18b0]) | skip); have H' := Aside0.mk H; clear H; (try go_wp2); have n0_ := Aside0.mk (IsS92.drew HI191.out); have n1_ := Aside0.mk (below_drew1 HB.out); clear HI191; clear HB; have HI191 := n0_; have HB := n1_; clear n0_ n1_; refine start_ (n := 28) (S := fun w' => True) (ds := []) #[false, false, false, false, false, false, false, false, false, false, false, false, false, false, false, false, false, false, false, false, false, false, false, false, false, false, false, false] z4_ rfl rfl trivial (fun hHeld => ?_); refine with_tabW spec_PassDebt.tab7 spec_PassDebt.bits7 (fun HT_ HW_ => ?_); generalize w17.drew = w19 at HI191 HB hHeld ⊢; refine pure_ (i := 0) (N := some 35) (v := ?_) (a' := ?_) #[true, false, false, false, false, false, false, false, false, false, false, false, false, false, false, false, false, false, false, false, false, false, false, false, false, false, false, false] rfl rfl (any_of HT_.out z4_) (fun _ _ _ h => h) (Or.inl ⟨by rfl, ?_⟩) ?_ ?_; rotate_left
                · intro w'; go_simp; with_reducible rfl
                rotate_left
                · simp only [Act.put, List.setIfInBounds_toArray, List.set_cons_zero, List.set_cons_succ, i64_w, i32_w]; rfl
                refine pure_ (i := 1) (N := some 36) (v := ?_) (a' := ?_) #[true, true, false, false, false, false, false, false, false, false, false, false, false, false, false, false, false, false, false, false, false, false, false, false, false, false, false, false] rfl rfl (any_of HT_.out z4_) (fun _ _ _ h => h) (Or.inl ⟨by rfl, ?_⟩) ?_ ?_; rotate_left
                · intro w'; go_simp; with_reducible rfl
                rotate_left
                · simp only [Act.put, List.setIfInBounds_toArray, List.set_cons_zero, List.set_cons_succ, i64_w, i32_w]; rfl
                refine pure_ (i := 2) (N := some 37) (v := ?_) (a' := ?_) #[true, true, true, false, false, false, false, false, false, false, false, false, false, false, false, false, false, false, false, false, false, false, false, false, false, false, false, false] rfl rfl (any_of HT_.out z4_) (fun _ _ _ h => h) (Or.inl ⟨by rfl, ?_⟩) ?_ ?_; rotate_left
                · intro w'; go_simp; with_reducible rfl
                rotate_left
                · simp only [Act.put, List.setIfInBounds_toArray, List.set_cons_zero, List.set_cons_succ, i64_w, i32_w]; rfl
                refine pure_ (i := 3) (N := some 38) (v := ?_) (a' := ?_) #[true, true, true, true, false, false, false, false, false, false, false, false, false, false, false, false, false, false, false, false, false, false, false, false, false, false, false, false] rfl rfl (any_of HT_.out z4_) (fun _ _ _ h => h) (Or.inl ⟨by rfl, ?_⟩) ?_ ?_; rotate_left
                · intro w'; go_simp; with_reducible rfl
                rotate_left
                · simp only [Act.put, List.setIfInBounds_toArray, List.set_cons_zero, List.set_cons_succ, i64_w, i32_w]; rfl
                refine pure_ (i := 4) (N := some 39) (v := undef) (a' := ?_) #[true, true, true, true, true, false, false, false, false, false, false, false, false, false, false, false, false, false, false, false, false, false, false, false, false, false, false, false] rfl rfl (any_of HT_.out z4_) (fun _ _ _ h => h) (Or.inr ⟨by rfl, rfl⟩) ?_ ?_; rotate_left
                · simp only [Act.put, List.setIfInBounds_toArray, List.set_cons_zero, List.set_cons_succ, i64_w, i32_w]; rfl
                refine pure_ (i := 5) (N := some 40) (v := undef) (a' := ?_) #[true, true, true, true, true, true, false, false, false, false, false, false, false, false, false, false, false, false, false, false, false, false, false, false, false, false, false, false] rfl rfl (any_of HT_.out z4_) (fun _ _ _ h => h) (Or.inr ⟨by rfl, rfl⟩) ?_ ?_; rotate_left
                · simp only [Act.put, List.setIfInBounds_toArray, List.set_cons_zero, List.set_cons_succ, i64_w, i32_w]; rfl
                refine pure_ (i := 6) (N := some 41) (v := undef) (a' := ?_) #[true, true, true, true, true, true, true, false, false, false, false, false, false, false, false, false, false, false, false, false, false, false, false, false, false, false, false, false] rfl rfl (any_of HT_.out z4_) (fun _ _ _ h => h) (Or.inr ⟨by rfl, rfl⟩) ?_ ?_; rotate_left
                · simp only [Act.put, List.setIfInBounds_toArray, List.set_cons_zero, List.set_cons_succ, i64_w, i32_w]; rfl
                refine pure_ (i := 7) (N := some 42) (v := ?_) (a' := ?_) #[true, true, true, true, true, true, true, true, false, false, false, false, false, false, false, false, false, false, false, false, false, false, false, false, false, false, false, false] rfl rfl (any_of HT_.out z4_) (fun _ _ _ h => h) (Or.inl ⟨by rfl, ?_⟩) ?_ ?_; rotate_left
                · intro w'; go_simp; with_reducible rfl
                rotate_left
                · simp only [Act.put, List.setIfInBounds_toArray, List.set_cons_zero, List.set_cons_succ, i64_w, i32_w]; rfl
                refine pure_ (i := 8) (N := some 43) (v := ?_) (a' := ?_) #[true, true, true, true, true, true, true, true, true, false, false, false, false, false, false, false, false, false, false, false, false, false, false, false, false, false, false, false] rfl rfl (any_of HT_.out z4_) (fun _ _ _ h => h) (Or.inl ⟨by rfl, ?_⟩) ?_ ?_; rotate_left
                · intro w'; go_simp; with_reducible rfl
                rotate_left
                · simp only [Act.put, List.setIfInBounds_toArray, List.set_cons_zero, List.set_cons_succ, i64_w, i32_w]; rfl
                refine pure_ (i := 9) (N := some 44) (v := undef) (a' := ?_) #[true, true, true, true, true, true, true, true, true, true, false, false, false, false, false, false, false, false, false, false, false, false, false, false, false, false, false, false] rfl rfl (any_of HT_.out z4_) (fun _ _ _ h => h) (Or.inr ⟨by rfl, rfl⟩) ?_ ?_; rotate_left
                · simp only [Act.put, List.setIfInBounds_toArray, List.set_cons_zero, List.set_cons_succ, i64_w, i32_w]; rfl
                refine pure_ (i := 10) (N := some 45) (v := undef) (a' := ?_) #[true, true, true, true, true, true, true, true, true, true, true, false, false, false, false, false, false, false, false, false, false, false, false, false, false, false, false, false] rfl rfl (any_of HT_.out z4_) (fun _ _ _ h => h) (Or.inr ⟨by rfl, rfl⟩) ?_ ?_; rotate_left
                · simp only [Act.put, List.setIfInBounds_toArray, List.set_cons_zero, List.set_cons_succ, i64_w, i32_w]; rfl
                refine pure_ (i := 11) (N := some 46) (v := undef) (a' := ?_) #[true, true, true, true, true, true, true, true, true, true, true, true, false, false, false, false, false, false, false, false, false, false, false, false, false, false, false, false] rfl rfl (any_of HT_.out z4_) (fun _ _ _ h => h) (Or.inr ⟨by rfl, rfl⟩) ?_ ?_; rotate_left
                · simp only [Act.put, List.setIfInBounds_toArray, List.set_cons_zero, List.set_cons_succ, i64_w, i32_w]; rfl
                refine pure_ (i := 12) (N := some 47) (v := undef) (a' := ?_) #[true, true, true, true, true, true, true, true, true, true, true, true, true, false, false, false, false, false, false, false, false, false, false, false, false, false, false, false] rfl rfl (any_of HT_.out z4_) (fun _ _ _ h => h) (Or.inr ⟨by rfl, rfl⟩) ?_ ?_; rotate_left
                · simp only [Act.put, List.setIfInBounds_toArray, List.set_cons_zero, List.set_cons_succ, i64_w, i32_w]; rfl
                refine pure_ (i := 13) (N := some 48) (v := undef) (a' := ?_) #[true, true, true, true, true, true, true, true, true, true, true, true, true, true, false, false, false, false, false, false, false, false, false, false, false, false, false, false] rfl rfl (any_of HT_.out z4_) (fun _ _ _ h => h) (Or.inr ⟨by rfl, rfl⟩) ?_ ?_; rotate_left
                · simp only [Act.put, List.setIfInBounds_toArray, List.set_cons_zero, List.set_cons_succ, i64_w, i32_w]; rfl
                refine pure_ (i := 14) (N := some 49) (v := undef) (a' := ?_) #[true, true, true, true, true, true, true, true, true, true, true, true, true, true, true, false, false, false, false, false, false, false, false, false, false, false, false, false] rfl rfl (any_of HT_.out z4_) (fun _ _ _ h => h) (Or.inr ⟨by rfl, rfl⟩) ?_ ?_; rotate_left
                · simp only [Act.put, List.setIfInBounds_toArray, List.set_cons_zero, List.set_cons_succ, i64_w, i32_w]; rfl
                refine pure_ (i := 15) (N := some 50) (v := undef) (a' := ?_) #[true, true, true, true, true, true, true, true, true, true, true, true, true, true, true, true, false, false, false, false, false, false, false, false, false, false, false, false] rfl rfl (any_of HT_.out z4_) (fun _ _ _ h => h) (Or.inr ⟨by rfl, rfl⟩) ?_ ?_; rotate_left
                · simp only [Act.put, List.setIfInBounds_toArray, List.set_cons_zero, List.set_cons_succ, i64_w, i32_w]; rfl
                refine pure_ (i := 16) (N := some 51) (v := undef) (a' := ?_) #[true, true, true, true, true, true, true, true, true, true, true, true, true, true, true, true, true, false, false, false, false, false, false, false, false, false, false, false] rfl rfl (any_of HT_.out z4_) (fun _ _ _ h => h) (Or.inr ⟨by rfl, rfl⟩) ?_ ?_; rotate_left
                · simp only [Act.put, List.setIfInBounds_toArray, List.set_cons_zero, List.set_cons_succ, i64_w, i32_w]; rfl
                refine pure_ (i := 17) (N := some 52) (v := undef) (a' := ?_) #[true, true, true, true, true, true, true, true, true, true, true, true, true, true, true, true, true, true, false, false, false, false, false, false, false, false, false, false] rfl rfl (any_of HT_.out z4_) (fun _ _ _ h => h) (Or.inr ⟨by rfl, rfl⟩) ?_ ?_; rotate_left
                · simp only [Act.put, List.setIfInBounds_toArray, List.set_cons_zero, List.set_cons_succ, i64_w, i32_w]; rfl
                refine pure_ (i := 18) (N := some 53) (v := undef) (a' := ?_) #[true, true, true, true, true, true, true, true, true, true, true, true, true, true, true, true, true, true, true, false, false, false, false, false, false, false, false, false] rfl rfl (any_of HT_.out z4_) (fun _ _ _ h => h) (Or.inr ⟨by rfl, rfl⟩) ?_ ?_; rotate_left
                · simp only [Act.put, List.setIfInBounds_toArray, List.set_cons_zero, List.set_cons_succ, i64_w, i32_w]; rfl
                refine pure_ (i := 19) (N := some 54) (v := undef) (a' := ?_) #[true, true, true, true, true, true, true, true, true, true, true, true, true, true, true, true, true, true, true, true, false, false, false, false, false, false, false, false] rfl rfl (any_of HT_.out z4_) (fun _ _ _ h => h) (Or.inr ⟨by rfl, rfl⟩) ?_ ?_; rotate_left
                · simp only [Act.put, List.setIfInBounds_toArray, List.set_cons_zero, List.set_cons_succ, i64_w, i32_w]; rfl
                refine pure_ (i := 20) (N := some 55) (v := undef) (a' := ?_) #[true, true, true, true, true, true, true, true, true, true, true, true, true, true, true, true, true, true, true, true, true, false, false, false, false, false, false, false] rfl rfl (any_of HT_.out z4_) (fun _ _ _ h => h) (Or.inr ⟨by rfl, rfl⟩) ?_ ?_; rotate_left
                · simp only [Act.put, List.setIfInBounds_toArray, List.set_cons_zero, List.set_cons_succ, i64_w, i32_w]; rfl
                refine pure_ (i := 21) (N := some 56) (v := undef) (a' := ?_) #[true, true, true, true, true, true, true, true, true, true, true, true, true, true, true, true, true, true, true, true, true, true, false, false, false, false, false, false] rfl rfl (any_of HT_.out z4_) (fun _ _ _ h => h) (Or.inr ⟨by rfl, rfl⟩) ?_ ?_; rotate_left
                · simp only [Act.put, List.setIfInBounds_toArray, List.set_cons_zero, List.set_cons_succ, i64_w, i32_w]; rfl
                refine pure_ (i := 22) (N := some 57) (v := undef) (a' := ?_) #[true, true, true, true, true, true, true, true, true, true, true, true, true, true, true, true, true, true, true, true, true, true, true, false, false, false, false, false] rfl rfl (any_of HT_.out z4_) (fun _ _ _ h => h) (Or.inr ⟨by rfl, rfl⟩) ?_ ?_; rotate_left
                · simp only [Act.put, List.setIfInBounds_toArray, List.set_cons_zero, List.set_cons_succ, i64_w, i32_w]; rfl
                refine pure_ (i := 23) (N := some 58) (v := undef) (a' := ?_) #[true, true, true, true, true, true, true, true, true, true, true, true, true, true, true, true, true, true, true, true, true, true, true, true, false, false, false, false] rfl rfl (any_of HT_.out z4_) (fun _ _ _ h => h) (Or.inr ⟨by rfl, rfl⟩) ?_ ?_; rotate_left
                · simp only [Act.put, List.setIfInBounds_toArray, List.set_cons_zero, List.set_cons_succ, i64_w, i32_w]; rfl
                refine pure_ (i := 24) (N := some 59) (v := undef) (a' := ?_) #[true, true, true, true, true, true, true, true, true, true, true, true, true, true, true, true, true, true, true, true, true, true, true, true, true, false, false, false] rfl rfl (any_of HT_.out z4_) (fun _ _ _ h => h) (Or.inr ⟨by rfl, rfl⟩) ?_ ?_; rotate_left
                · simp only [Act.put, List.setIfInBounds_toArray, List.set_cons_zero, List.set_cons_succ, i64_w, i32_w]; rfl
                refine pure_ (i := 25) (N := some 60) (v := undef) (a' := ?_) #[true, true, true, true, true, true, true, true, true, true, true, true, true, true, true, true, true, true, true, true, true, true, true, true, true, true, false, false] rfl rfl (any_of HT_.out z4_) (fun _ _ _ h => h) (Or.inr ⟨by rfl, rfl⟩) ?_ ?_; rotate_left
                · simp only [Act.put, List.setIfInBounds_toArray, List.set_cons_zero, List.set_cons_succ, i64_w, i32_w]; rfl
                refine pure_ (i := 26) (N := some 61) (v := undef) (a' := ?_) #[true, true, true, true, true, true, true, true, true, true, true, true, true, true, true, true, true, true, true, true, true, true, true, true, true, true, true, false] rfl rfl (any_of HT_.out z4_) (fun _ _ _ h => h) (Or.inr ⟨by rfl, rfl⟩) ?_ ?_; rotate_left
                · simp only [Act.put, List.setIfInBounds_toArray, List.set_cons_zero, List.set_cons_succ, i64_w, i32_w]; rfl
                refine pure_ (i := 27) (N := some 62) (v := ?_) (a' := ?_) #[true, true, true, true, true, true, true, true, true, true, true, true, true, true, true, true, true, true, true, true, true, true, true, true, true, true, true, true] rfl rfl (any_of HT_.out z4_) (fun _ _ _ h => h) (Or.inl ⟨by rfl, ?_⟩) ?_ ?_; rotate_left
                · intro w'; go_simp; with_reducible rfl
                rotate_left
                · simp only [Act.put, List.setIfInBounds_toArray, List.set_cons_zero, List.set_cons_succ, i64_w, i32_w]; rfl
                refine done_ (done_of HT_.out z4_) ?_; (try go_wp2); go_meet
                case rel => exact ⟨_, (true), z5_, H', ⟨by have := HJ7.out; have := HJ11.out; first | omega | exact Nat.le_refl _⟩, ⟨z12_⟩, ⟨z16_⟩⟩
              · rw [if_neg c18] at H; have c18b0 : (a2 == a3) = false := beq_eq_false_iff_ne.mpr c18; have c18b1 : (a2 != a3) = true := bne_iff_ne.mpr c18; (first | rw [c18b0] | (simp only [i64_w, i32_w]; rw [c18b0]) | skip); by_cases c20 : a3 = a4
                · rw [if_pos c20] at H; have c20b0 : (a3 == a4) = true := beq_iff_eq.mpr c20; have c20b1 : (a3 != a4) = false := bne_eq_false_iff_eq.mpr c20; clear c20; have H' := Aside0.mk H; clear H; (try go_wp2); have n0_ := Aside0.mk (IsS92.drew HI191.out); have n1_ := Aside0.mk (below_drew1 HB.out); clear HI191; clear HB; have HI191 := n0_; have HB := n1_; clear n0_ n1_; refine start_ (n := 28) (S := fun w' => True) (ds := []) #[false, false, false, false, false, false, false, false, false, false, false, false, false, false, false, false, false, false, false, false, false, false, false, false, false, false, false, false] z4_ rfl rfl trivial (fun hHeld => ?_); refine with_tabW spec_PassDebt.tab7 spec_PassDebt.bits7 (fun HT_ HW_ => ?_); generalize w17.drew = w21 at HI191 HB hHeld ⊢; refine pure_ (i := 0) (N := some 35) (v := ?_) (a' := ?_) #[true, false, false, false, false, false, false, false, false, false, false, false, false, false, false, false, false, false, false, false, false, false, false, false, false, false, false, false] rfl rfl (any_of HT_.out z4_) (fun _ _ _ h => h) (Or.inl ⟨by rfl, ?_⟩) ?_ ?_; rotate_left
                  · intro w'; go_simp; with_reducible rfl
                  rotate_left
                  · simp only [Act.put, List.setIfInBounds_toArray, List.set_cons_zero, List.set_cons_succ, i64_w, i32_w]; rfl
                  refine pure_ (i := 1) (N := some 36) (v := ?_) (a' := ?_) #[true, true, false, false, false, false, false, false, false, false, false, false, false, false, false, false, false, false, false, false, false, false, false, false, false, false, false, false] rfl rfl (any_of HT_.out z4_) (fun _ _ _ h => h) (Or.inl ⟨by rfl, ?_⟩) ?_ ?_; rotate_left
                  · intro w'; go_simp; with_reducible rfl
                  rotate_left
                  · simp only [Act.put, List.setIfInBounds_toArray, List.set_cons_zero, List.set_cons_succ, i64_w, i32_w]; rfl
                  refine pure_ (i := 2) (N := some 37) (v := ?_) (a' := ?_) #[true, true, true, false, false, false, false, false, false, false, false, false, false, false, false, false, false, false, false, false, false, false, false, false, false, false, false, false] rfl rfl (any_of HT_.out z4_) (fun _ _ _ h => h) (Or.inl ⟨by rfl, ?_⟩) ?_ ?_; rotate_left
                  · intro w'; go_simp; with_reducible rfl
                  rotate_left
                  · simp only [Act.put, List.setIfInBounds_toArray, List.set_cons_zero, List.set_cons_succ, i64_w, i32_w]; rfl
                  refine pure_ (i := 3) (N := some 38) (v := ?_) (a' := ?_) #[true, true, true, true, false, false, false, false, false, false, false, false, false, false, false, false, false, false, false, false, false, false, false, false, false, false, false, false] rfl rfl (any_of HT_.out z4_) (fun _ _ _ h => h) (Or.inl ⟨by rfl, ?_⟩) ?_ ?_; rotate_left
                  · intro w'; go_simp; with_reducible rfl
                  rotate_left
                  · simp only [Act.put, List.setIfInBounds_toArray, List.set_cons_zero, List.set_cons_succ, i64_w, i32_w]; rfl
                  refine pure_ (i := 4) (N := some 39) (v := ?_) (a' := ?_) #[true, true, true, true, true, false, false, false, false, false, false, false, false, false, false, false, false, false, false, false, false, false, false, false, false, false, false, false] rfl rfl (any_of HT_.out z4_) (fun _ _ _ h => h) (Or.inl ⟨by rfl, ?_⟩) ?_ ?_; rotate_left
                  · intro w'; go_simp; with_reducible rfl
                  rotate_left
                  · simp only [Act.put, List.setIfInBounds_toArray, List.set_cons_zero, List.set_cons_succ, i64_w, i32_w]; rfl
                  refine pure_ (i := 5) (N := some 40) (v := ?_) (a' := ?_) #[true, true, true, true, true, true, false, false, false, false, false, false, false, false, false, false, false, false, false, false, false, false, false, false, false, false, false, false] rfl rfl (any_of HT_.out z4_) (fun _ _ _ h => h) (Or.inl ⟨by rfl, ?_⟩) ?_ ?_; rotate_left
                  · intro w'; go_simp; with_reducible rfl
                  rotate_left
                  · simp only [Act.put, List.setIfInBounds_toArray, List.set_cons_zero, List.set_cons_succ, i64_w, i32_w]; rfl
                  refine pure_ (i := 6) (N := some 41) (v := ?_) (a' := ?_) #[true, true, true, true, true, true, true, false, false, false, false, false, false, false, false, false, false, false, false, false, false, false, false, false, false, false, false, false] rfl rfl (any_of HT_.out z4_) (fun _ _ _ h => h) (Or.inl ⟨by rfl, ?_⟩) ?_ ?_; rotate_left
                  · intro w'; go_simp; with_reducible rfl
                  rotate_left
                  · simp only [Act.put, List.setIfInBounds_toArray, List.set_cons_zero, List.set_cons_succ, i64_w, i32_w]; rfl
                  refine pure_ (i := 7) (N := some 42) (v := ?_) (a' := ?_) #[true, true, true, true, true, true, true, true, false, false, false, false, false, false, false, false, false, false, false, false, false, false, false, false, false, false, false, false] rfl rfl (any_of HT_.out z4_) (fun _ _ _ h => h) (Or.inl ⟨by rfl, ?_⟩) ?_ ?_; rotate_left
                  · intro w'; go_simp; with_reducible rfl
                  rotate_left
                  · simp only [Act.put, List.setIfInBounds_toArray, List.set_cons_zero, List.set_cons_succ, i64_w, i32_w]; rfl
                  refine pure_ (i := 8) (N := some 43) (v := ?_) (a' := ?_) #[true, true, true, true, true, true, true, true, true, false, false, false, false, false, false, false, false, false, false, false, false, false, false, false, false, false, false, false] rfl rfl (any_of HT_.out z4_) (fun _ _ _ h => h) (Or.inl ⟨by rfl, ?_⟩) ?_ ?_; rotate_left
                  · intro w'; go_simp; with_reducible rfl
                  rotate_left
                  · simp only [Act.put, List.setIfInBounds_toArray, List.set_cons_zero, List.set_cons_succ, i64_w, i32_w]; rfl
                  refine pure_ (i := 9) (N := some 44) (v := undef) (a' := ?_) #[true, true, true, true, true, true, true, true, true, true, false, false, false, false, false, false, false, false, false, false, false, false, false, false, false, false, false, false] rfl rfl (any_of HT_.out z4_) (fun _ _ _ h => h) (Or.inr ⟨by rfl, rfl⟩) ?_ ?_; rotate_left
                  · simp only [Act.put, List.setIfInBounds_toArray, List.set_cons_zero, List.set_cons_succ, i64_w, i32_w]; rfl
                  refine pure_ (i := 10) (N := some 45) (v := undef) (a' := ?_) #[true, true, true, true, true, true, true, true, true, true, true, false, false, false, false, false, false, false, false, false, false, false, false, false, false, false, false, false] rfl rfl (any_of HT_.out z4_) (fun _ _ _ h => h) (Or.inr ⟨by rfl, rfl⟩) ?_ ?_; rotate_left
                  · simp only [Act.put, List.setIfInBounds_toArray, List.set_cons_zero, List.set_cons_succ, i64_w, i32_w]; rfl
                  refine pure_ (i := 11) (N := some 46) (v := undef) (a' := ?_) #[true, true, true, true, true, true, true, true, true, true, true, true, false, false, false, false, false, false, false, false, false, false, false, false, false, false, false, false] rfl rfl (any_of HT_.out z4_) (fun _ _ _ h => h) (Or.inr ⟨by rfl, rfl⟩) ?_ ?_; rotate_left
                  · simp only [Act.put, List.setIfInBounds_toArray, List.set_cons_zero, List.set_cons_succ, i64_w, i32_w]; rfl
                  refine pure_ (i := 12) (N := some 47) (v := undef) (a' := ?_) #[true, true, true, true, true, true, true, true, true, true, true, true, true, false, false, false, false, false, false, false, false, false, false, false, false, false, false, false] rfl rfl (any_of HT_.out z4_) (fun _ _ _ h => h) (Or.inr ⟨by rfl, rfl⟩) ?_ ?_; rotate_left
                  · simp only [Act.put, List.setIfInBounds_toArray, List.set_cons_zero, List.set_cons_succ, i64_w, i32_w]; rfl
                  refine pure_ (i := 13) (N := some 48) (v := undef) (a' := ?_) #[true, true, true, true, true, true, true, true, true, true, true, true, true, true, false, false, false, false, false, false, false, false, false, false, false, false, false, false] rfl rfl (any_of HT_.out z4_) (fun _ _ _ h => h) (Or.inr ⟨by rfl, rfl⟩) ?_ ?_; rotate_left
                  · simp only [Act.put, List.setIfInBounds_toArray, List.set_cons_zero, List.set_cons_succ, i64_w, i32_w]; rfl
                  refine pure_ (i := 14) (N := some 49) (v := undef) (a' := ?_) #[true, true, true, true, true, true, true, true, true, true, true, true, true, true, true, false, false, false, false, false, false, false, false, false, false, false, false, false] rfl rfl (any_of HT_.out z4_) (fun _ _ _ h => h) (Or.inr ⟨by rfl, rfl⟩) ?_ ?_; rotate_left
                  · simp only [Act.put, List.setIfInBounds_toArray, List.set_cons_zero, List.set_cons_succ, i64_w, i32_w]; rfl
                  refine pure_ (i := 15) (N := some 50) (v := undef) (a' := ?_) #[true, true, true, true, true, true, true, true, true, true, true, true, true, true, true, true, false, false, false, false, false, false, false, false, false, false, false, false] rfl rfl (any_of HT_.out z4_) (fun _ _ _ h => h) (Or.inr ⟨by rfl, rfl⟩) ?_ ?_; rotate_left
                  · simp only [Act.put, List.setIfInBounds_toArray, List.set_cons_zero, List.set_cons_succ, i64_w, i32_w]; rfl
                  refine pure_ (i := 16) (N := some 51) (v := undef) (a' := ?_) #[true, true, true, true, true, true, true, true, true, true, true, true, true, true, true, true, true, false, false, false, false, false, false, false, false, false, false, false] rfl rfl (any_of HT_.out z4_) (fun _ _ _ h => h) (Or.inr ⟨by rfl, rfl⟩) ?_ ?_; rotate_left
                  · simp only [Act.put, List.setIfInBounds_toArray, List.set_cons_zero, List.set_cons_succ, i64_w, i32_w]; rfl
                  refine pure_ (i := 17) (N := some 52) (v := undef) (a' := ?_) #[true, true, true, true, true, true, true, true, true, true, true, true, true, true, true, true, true, true, false, false, false, false, false, false, false, false, false, false] rfl rfl (any_of HT_.out z4_) (fun _ _ _ h => h) (Or.inr ⟨by rfl, rfl⟩) ?_ ?_; rotate_left
                  · simp only [Act.put, List.setIfInBounds_toArray, List.set_cons_zero, List.set_cons_succ, i64_w, i32_w]; rfl
                  refine pure_ (i := 18) (N := some 53) (v := undef) (a' := ?_) #[true, true, true, true, true, true, true, true, true, true, true, true, true, true, true, true, true, true, true, false, false, false, false, false, false, false, false, false] rfl rfl (any_of HT_.out z4_) (fun _ _ _ h => h) (Or.inr ⟨by rfl, rfl⟩) ?_ ?_; rotate_left
                  · simp only [Act.put, List.setIfInBounds_toArray, List.set_cons_zero, List.set_cons_succ, i64_w, i32_w]; rfl
                  refine pure_ (i := 19) (N := some 54) (v := undef) (a' := ?_) #[true, true, true, true, true, true, true, true, true, true, true, true, true, true, true, true, true, true, true, true, false, false, false, false, false, false, false, false] rfl rfl (any_of HT_.out z4_) (fun _ _ _ h => h) (Or.inr ⟨by rfl, rfl⟩) ?_ ?_; rotate_left
                  · simp only [Act.put, List.setIfInBounds_toArray, List.set_cons_zero, List.set_cons_succ, i64_w, i32_w]; rfl
                  refine pure_ (i := 20) (N := some 55) (v := undef) (a' := ?_) #[true, true, true, true, true, true, true, true, true, true, true, true, true, true, true, true, true, true, true, true, true, false, false, false, false, false, false, false] rfl rfl (any_of HT_.out z4_) (fun _ _ _ h => h) (Or.inr ⟨by rfl, rfl⟩) ?_ ?_; rotate_left
                  · simp only [Act.put, List.setIfInBounds_toArray, List.set_cons_zero, List.set_cons_succ, i64_w, i32_w]; rfl
                  refine pure_ (i := 21) (N := some 56) (v := undef) (a' := ?_) #[true, true, true, true, true, true, true, true, true, true, true, true, true, true, true, true, true, true, true, true, true, true, false, false, false, false, false, false] rfl rfl (any_of HT_.out z4_) (fun _ _ _ h => h) (Or.inr ⟨by rfl, rfl⟩) ?_ ?_; rotate_left
                  · simp only [Act.put, List.setIfInBounds_toArray, List.set_cons_zero, List.set_cons_succ, i64_w, i32_w]; rfl
                  refine pure_ (i := 22) (N := some 57) (v := undef) (a' := ?_) #[true, true, true, true, true, true, true, true, true, true, true, true, true, true, true, true, true, true, true, true, true, true, true, false, false, false, false, false] rfl rfl (any_of HT_.out z4_) (fun _ _ _ h => h) (Or.inr ⟨by rfl, rfl⟩) ?_ ?_; rotate_left
                  · simp only [Act.put, List.setIfInBounds_toArray, List.set_cons_zero, List.set_cons_succ, i64_w, i32_w]; rfl
                  refine pure_ (i := 23) (N := some 58) (v := undef) (a' := ?_) #[true, true, true, true, true, true, true, true, true, true, true, true, true, true, true, true, true, true, true, true, true, true, true, true, false, false, false, false] rfl rfl (any_of HT_.out z4_) (fun _ _ _ h => h) (Or.inr ⟨by rfl, rfl⟩) ?_ ?_; rotate_left
                  · simp only [Act.put, List.setIfInBounds_toArray, List.set_cons_zero, List.set_cons_succ, i64_w, i32_w]; rfl
                  refine pure_ (i := 24) (N := some 59) (v := undef) (a' := ?_) #[true, true, true, true, true, true, true, true, true, true, true, true, true, true, true, true, true, true, true, true, true, true, true, true, true, false, false, false] rfl rfl (any_of HT_.out z4_) (fun _ _ _ h => h) (Or.inr ⟨by rfl, rfl⟩) ?_ ?_; rotate_left
                  · simp only [Act.put, List.setIfInBounds_toArray, List.set_cons_zero, List.set_cons_succ, i64_w, i32_w]; rfl
                  refine pure_ (i := 25) (N := some 60) (v := undef) (a' := ?_) #[true, true, true, true, true, true, true, true, true, true, true, true, true, true, true, true, true, true, true, true, true, true, true, true, true, true, false, false] rfl rfl (any_of HT_.out z4_) (fun _ _ _ h => h) (Or.inr ⟨by rfl, rfl⟩) ?_ ?_; rotate_left
                  · simp only [Act.put, List.setIfInBounds_toArray, List.set_cons_zero, List.set_cons_succ, i64_w, i32_w]; rfl
                  refine pure_ (i := 26) (N := some 61) (v := undef) (a' := ?_) #[true, true, true, true, true, true, true, true, true, true, true, true, true, true, true, true, true, true, true, true, true, true, true, true, true, true, true, false] rfl rfl (any_of HT_.out z4_) (fun _ _ _ h => h) (Or.inr ⟨by rfl, rfl⟩) ?_ ?_; rotate_left
                  · simp only [Act.put, List.setIfInBounds_toArray, List.set_cons_zero, List.set_cons_succ, i64_w, i32_w]; rfl
                  refine pure_ (i := 27) (N := some 62) (v := ?_) (a' := ?_) #[true, true, true, true, true, true, true, true, true, true, true, true, true, true, true, true, true, true, true, true, true, true, true, true, true, true, true, true] rfl rfl (any_of HT_.out z4_) (fun _ _ _ h => h) (Or.inl ⟨by rfl, ?_⟩) ?_ ?_; rotate_left
                  · intro w'; go_simp; with_reducible rfl
                  rotate_left
                  · simp only [Act.put, List.setIfInBounds_toArray, List.set_cons_zero, List.set_cons_succ, i64_w, i32_w]; rfl
                  refine done_ (done_of HT_.out z4_) ?_; (try go_wp2); go_meet
                  case rel => exact ⟨_, (true), z5_, H', ⟨by have := HJ7.out; have := HJ11.out; first | omega | exact Nat.le_refl _⟩, ⟨z12_⟩, ⟨z16_⟩⟩
                · rw [if_neg c20] at H; have c20b0 : (a3 == a4) = false := beq_eq_false_iff_ne.mpr c20; have c20b1 : (a3 != a4) = true := bne_iff_ne.mpr c20; by_cases c22 : 0 ≤ a2
                  · rw [if_pos c22] at H; have c22b0 : decide (0 ≤ a2) = true := decide_eq_true c22; clear c22; by_cases c23 : a2 < 16
                    · rw [if_pos c23] at H; have c23b0 : decide (a2 < 16) = true := decide_eq_true c23; clear c23; by_cases c25 : 0 ≤ a3
                      · rw [if_pos c25] at H; have c25b0 : decide (0 ≤ a3) = true := decide_eq_true c25; clear c25; by_cases c26 : a3 < 16
                        · rw [if_pos c26] at H; have c26b0 : decide (a3 < 16) = true := decide_eq_true c26; clear c26; by_cases c30 : 0 ≤ a4
                          · rw [if_pos c30] at H; have c30b0 : decide (0 ≤ a4) = true := decide_eq_true c30; clear c30; by_cases c31 : a4 < 16
                            · rw [if_pos c31] at H; have c31b0 : decide (a4 < 16) = true := decide_eq_true c31; clear c31; replace H := Option.bind_eq_some_iff.mp H; obtain ⟨t192, A340, H⟩ := H; replace H : ((spec_l00In.f a5 1 t192).bind fun t193 => (spec_PassDebt.j2 kj11 a2 a3 a4 a5 (!t193) t190)) = some (r1, r2) := H; have A34 := Aside0.mk A340; clear A340; replace H := Option.bind_eq_some_iff.mp H; obtain ⟨t193, A350, H⟩ := H; replace H : (spec_PassDebt.j2 kj11 a2 a3 a4 a5 (!t193) t190) = some (r1, r2) := H; have A35 := Aside0.mk A350; clear A350; have H' := Aside0.mk H; clear H; (try go_wp2); have n0_ := Aside0.mk (IsS92.drew HI191.out); have n1_ := Aside0.mk (below_drew1 HB.out); clear HI191; clear HB; have HI191 := n0_; have HB := n1_; clear n0_ n1_; have p24 : 0 ≤ (a2 : Int) := of_decide_eq_true z1_; have q24 : (a2 : Int) < 16 := of_decide_eq_true z1_; replace p24 := eq_true p24; replace q24 := eq_true q24; have p27 : 0 ≤ (a3 : Int) := of_decide_eq_true z1_; have q27 : (a3 : Int) < 16 := of_decide_eq_true z1_; replace p27 := eq_true p27; replace q27 := eq_true q27; have p29 : 0 ≤ (a3 : Int) := of_decide_eq_true z1_; have q29 : (a3 : Int) < 16 := of_decide_eq_true z1_; replace p29 := eq_true p29; replace q29 := eq_true q29; have p32 : 0 ≤ (a4 : Int) := of_decide_eq_true z1_; have q32 : (a4 : Int) < 16 := of_decide_eq_true z1_; replace p32 := eq_true p32; replace q32 := eq_true q32; refine start_ (n := 28) (S := fun w' => w'.cell? ⟨g191, a2.toNat * 16 + a3.toNat, none⟩ = some (.int .i64 (Arr.vrd2 16 t190 a2 a3)) ∧ w'.cell? ⟨g191, a3.toNat * 16 + a4.toNat, none⟩ = some (.int .i64 (Arr.vrd2 16 t190 a3 a4))) (ds := []) #[false, false, false, false, false, false, false, false, false, false, false, false, false, false, false, false, false, false, false, false, false, false, false, false, false, false, false, false] z4_ rfl rfl ⟨(Arr.cellN (off := 0) (l := (Arr.arL .i64 t190)) ((HI191.out).1) rfl (a2.toNat * 16 + a3.toNat) (a2.toNat * 16 + a3.toNat) (by omega) z56_), (Arr.cellN (off := 0) (l := (Arr.arL .i64 t190)) ((HI191.out).1) rfl (a3.toNat * 16 + a4.toNat) (a3.toNat * 16 + a4.toNat) (by omega) z72_)⟩ (fun hHeld => ?_); refine with_tabW spec_PassDebt.tab7 spec_PassDebt.bits7 (fun HT_ HW_ => ?_); generalize w17.drew = w36 at HI191 HB hHeld ⊢; refine pure_ (i := 0) (N := some 35) (v := ?_) (a' := ?_) #[true, false, false, false, false, false, false, false, false, false, false, false, false, false, false, false, false, false, false, false, false, false, false, false, false, false, false, false] rfl rfl (any_of HT_.out z4_) (fun _ _ _ h => h) (Or.inl ⟨by rfl, ?_⟩) ?_ ?_; rotate_left
                              · intro w'; go_simp; with_reducible rfl
                              rotate_left
                              · simp only [Act.put, List.setIfInBounds_toArray, List.set_cons_zero, List.set_cons_succ, i64_w, i32_w]; rfl
                              refine pure_ (i := 1) (N := some 36) (v := ?_) (a' := ?_) #[true, true, false, false, false, false, false, false, false, false, false, false, false, false, false, false, false, false, false, false, false, false, false, false, false, false, false, false] rfl rfl (any_of HT_.out z4_) (fun _ _ _ h => h) (Or.inl ⟨by rfl, ?_⟩) ?_ ?_; rotate_left
                              · intro w'; go_simp; with_reducible rfl
                              rotate_left
                              · simp only [Act.put, List.setIfInBounds_toArray, List.set_cons_zero, List.set_cons_succ, i64_w, i32_w]; rfl
                              refine pure_ (i := 2) (N := some 37) (v := ?_) (a' := ?_) #[true, true, true, false, false, false, false, false, false, false, false, false, false, false, false, false, false, false, false, false, false, false, false, false, false, false, false, false] rfl rfl (any_of HT_.out z4_) (fun _ _ _ h => h) (Or.inl ⟨by rfl, ?_⟩) ?_ ?_; rotate_left
                              · intro w'; go_simp; with_reducible rfl
                              rotate_left
                              · simp only [Act.put, List.setIfInBounds_toArray, List.set_cons_zero, List.set_cons_succ, i64_w, i32_w]; rfl
                              refine pure_ (i := 3) (N := some 38) (v := ?_) (a' := ?_) #[true, true, true, true, false, false, false, false, false, false, false, false, false, false, false, false, false, false, false, false, false, false, false, false, false, false, false, false] rfl rfl (any_of HT_.out z4_) (fun _ _ _ h => h) (Or.inl ⟨by rfl, ?_⟩) ?_ ?_; rotate_left
                              · intro w'; go_simp; with_reducible rfl
                              rotate_left
                              · simp only [Act.put, List.setIfInBounds_toArray, List.set_cons_zero, List.set_cons_succ, i64_w, i32_w]; rfl
                              refine pure_ (i := 4) (N := some 39) (v := ?_) (a' := ?_) #[true, true, true, true, true, false, false, false, false, false, false, false, false, false, false, false, false, false, false, false, false, false, false, false, false, false, false, false] rfl rfl (any_of HT_.out z4_) (fun _ _ _ h => h) (Or.inl ⟨by rfl, ?_⟩) ?_ ?_; rotate_left
                              · intro w'; go_simp; with_reducible rfl
                              rotate_left
                              · simp only [Act.put, List.setIfInBounds_toArray, List.set_cons_zero, List.set_cons_succ, i64_w, i32_w]; rfl
                              refine pure_ (i := 5) (N := some 40) (v := ?_) (a' := ?_) #[true, true, true, true, true, true, false, false, false, false, false, false, false, false, false, false, false, false, false, false, false, false, false, false, false, false, false, false] rfl rfl (any_of HT_.out z4_) (fun _ _ _ h => h) (Or.inl ⟨by rfl, ?_⟩) ?_ ?_; rotate_left
                              · intro w'; go_simp; with_reducible rfl
                              rotate_left
                              · simp only [Act.put, List.setIfInBounds_toArray, List.set_cons_zero, List.set_cons_succ, i64_w, i32_w]; rfl
                              refine pure_ (i := 6) (N := some 41) (v := ?_) (a' := ?_) #[true, true, true, true, true, true, true, false, false, false, false, false, false, false, false, false, false, false, false, false, false, false, false, false, false, false, false, false] rfl rfl (any_of HT_.out z4_) (fun _ _ _ h => h) (Or.inl ⟨by rfl, ?_⟩) ?_ ?_; rotate_left
                              · intro w'; go_simp; with_reducible rfl
                              rotate_left
                              · simp only [Act.put, List.setIfInBounds_toArray, List.set_cons_zero, List.set_cons_succ, i64_w, i32_w]; rfl
                              refine pure_ (i := 7) (N := some 42) (v := ?_) (a' := ?_) #[true, true, true, true, true, true, true, true, false, false, false, false, false, false, false, false, false, false, false, false, false, false, false, false, false, false, false, false] rfl rfl (any_of HT_.out z4_) (fun _ _ _ h => h) (Or.inl ⟨by rfl, ?_⟩) ?_ ?_; rotate_left
                              · intro w'; go_simp; with_reducible rfl
                              rotate_left
                              · simp only [Act.put, List.setIfInBounds_toArray, List.set_cons_zero, List.set_cons_succ, i64_w, i32_w]; rfl
                              refine pure_ (i := 8) (N := some 43) (v := ?_) (a' := ?_) #[true, true, true, true, true, true, true, true, true, false, false, false, false, false, false, false, false, false, false, false, false, false, false, false, false, false, false, false] rfl rfl (any_of HT_.out z4_) (fun _ _ _ h => h) (Or.inl ⟨by rfl, ?_⟩) ?_ ?_; rotate_left
                              · intro w'; go_simp; with_reducible rfl
                              rotate_left
                              · simp only [Act.put, List.setIfInBounds_toArray, List.set_cons_zero, List.set_cons_succ, i64_w, i32_w]; rfl
                              refine pure_ (i := 9) (N := some 44) (v := ?_) (a' := ?_) #[true, true, true, true, true, true, true, true, true, true, false, false, false, false, false, false, false, false, false, false, false, false, false, false, false, false, false, false] rfl rfl (any_of HT_.out z4_) (fun _ _ _ h => h) (Or.inl ⟨by rfl, ?_⟩) ?_ ?_; rotate_left
                              · intro w'; go_simp; with_reducible rfl
                              rotate_left
                              · simp only [Act.put, List.setIfInBounds_toArray, List.set_cons_zero, List.set_cons_succ, i64_w, i32_w]; rfl
                              refine pure_ (i := 10) (N := some 45) (v := ?_) (a' := ?_) #[true, true, true, true, true, true, true, true, true, true, true, false, false, false, false, false, false, false, false, false, false, false, false, false, false, false, false, false] rfl rfl (any_of HT_.out z4_) (fun _ _ _ h => h) (Or.inl ⟨by rfl, ?_⟩) ?_ ?_; rotate_left
                              · intro w'; go_simp; with_reducible rfl
                              rotate_left
                              · simp only [Act.put, List.setIfInBounds_toArray, List.set_cons_zero, List.set_cons_succ, i64_w, i32_w]; rfl
                              refine pure_ (i := 11) (N := some 46) (v := ?_) (a' := ?_) #[true, true, true, true, true, true, true, true, true, true, true, true, false, false, false, false, false, false, false, false, false, false, false, false, false, false, false, false] rfl rfl (any_of HT_.out z4_) (fun _ _ _ h => h) (Or.inl ⟨by rfl, ?_⟩) ?_ ?_; rotate_left
                              · intro w'; go_simp; with_reducible rfl
                              rotate_left
                              · simp only [Act.put, List.setIfInBounds_toArray, List.set_cons_zero, List.set_cons_succ, i64_w, i32_w]; rfl
                              refine pure_ (i := 12) (N := some 47) (v := ?_) (a' := ?_) #[true, true, true, true, true, true, true, true, true, true, true, true, true, false, false, false, false, false, false, false, false, false, false, false, false, false, false, false] rfl rfl (any_of HT_.out z4_) (fun _ _ _ h => h) (Or.inl ⟨by rfl, ?_⟩) ?_ ?_; rotate_left
                              · intro w'; go_simp; with_reducible rfl
                              rotate_left
                              · simp only [Act.put, List.setIfInBounds_toArray, List.set_cons_zero, List.set_cons_succ, i64_w, i32_w]; rfl
                              refine pure_ (i := 13) (N := some 48) (v := ?_) (a' := ?_) #[true, true, true, true, true, true, true, true, true, true, true, true, true, true, false, false, false, false, false, false, false, false, false, false, false, false, false, false] rfl rfl (any_of HT_.out z4_) (fun _ _ _ h => h) (Or.inl ⟨by rfl, ?_⟩) ?_ ?_; rotate_left
                              · intro w'; go_simp; with_reducible rfl
                              rotate_left
                              · simp only [Act.put, List.setIfInBounds_toArray, List.set_cons_zero, List.set_cons_succ, i64_w, i32_w]; rfl
                              refine pure_ (i := 14) (N := some 49) (v := ?_) (a' := ?_) #[true, true, true, true, true, true, true, true, true, true, true, true, true, true, true, false, false, false, false, false, false, false, false, false, false, false, false, false] rfl rfl (any_of HT_.out z4_) (fun _ _ _ h => h) (Or.inl ⟨by rfl, ?_⟩) ?_ ?_; rotate_left
                              · intro w'; go_simp; with_reducible rfl
                              rotate_left
                              · simp only [Act.put, List.setIfInBounds_toArray, List.set_cons_zero, List.set_cons_succ, i64_w, i32_w]; rfl
                              refine pure_ (i := 15) (N := some 50) (v := ?_) (a' := ?_) #[true, true, true, true, true, true, true, true, true, true, true, true, true, true, true, true, false, false, false, false, false, false, false, false, false, false, false, false] rfl rfl (any_of HT_.out z4_) (fun _ _ _ h => h) (Or.inl ⟨by rfl, ?_⟩) ?_ ?_; rotate_left
                              · intro w'; go_simp; with_reducible rfl
                              rotate_left
                              · simp only [Act.put, List.setIfInBounds_toArray, List.set_cons_zero, List.set_cons_succ, i64_w, i32_w]; rfl
                              refine pure_ (i := 17) (N := some 52) (v := ?_) (a' := ?_) #[true, true, true, true, true, true, true, true, true, true, true, true, true, true, true, true, false, true, false, false, false, false, false, false, false, false, false, false] rfl rfl (any_of HT_.out z4_) (fun _ _ _ h => h) (Or.inl ⟨by rfl, ?_⟩) ?_ ?_; rotate_left
                              · intro w'; go_simp; with_reducible rfl
                              rotate_left
                              · simp only [Act.put, List.setIfInBounds_toArray, List.set_cons_zero, List.set_cons_succ, i64_w, i32_w]; rfl
                              refine pure_ (i := 18) (N := some 53) (v := ?_) (a' := ?_) #[true, true, true, true, true, true, true, true, true, true, true, true, true, true, true, true, false, true, true, false, false, false, false, false, false, false, false, false] rfl rfl (any_of HT_.out z4_) (fun _ _ _ h => h) (Or.inl ⟨by rfl, ?_⟩) ?_ ?_; rotate_left
                              · intro w'; go_simp; with_reducible rfl
                              rotate_left
                              · simp only [Act.put, List.setIfInBounds_toArray, List.set_cons_zero, List.set_cons_succ, i64_w, i32_w]; rfl
                              refine pure_ (i := 19) (N := some 54) (v := ?_) (a' := ?_) #[true, true, true, true, true, true, true, true, true, true, true, true, true, true, true, true, false, true, true, true, false, false, false, false, false, false, false, false] rfl rfl (any_of HT_.out z4_) (fun _ _ _ h => h) (Or.inl ⟨by rfl, ?_⟩) ?_ ?_; rotate_left
                              · intro w'; go_simp; with_reducible rfl
                              rotate_left
                              · simp only [Act.put, List.setIfInBounds_toArray, List.set_cons_zero, List.set_cons_succ, i64_w, i32_w]; rfl
                              refine pure_ (i := 20) (N := some 55) (v := ?_) (a' := ?_) #[true, true, true, true, true, true, true, true, true, true, true, true, true, true, true, true, false, true, true, true, true, false, false, false, false, false, false, false] rfl rfl (any_of HT_.out z4_) (fun _ _ _ h => h) (Or.inl ⟨by rfl, ?_⟩) ?_ ?_; rotate_left
                              · intro w'; go_simp; with_reducible rfl
                              rotate_left
                              · simp only [Act.put, List.setIfInBounds_toArray, List.set_cons_zero, List.set_cons_succ, i64_w, i32_w]; rfl
                              refine pure_ (i := 21) (N := some 56) (v := ?_) (a' := ?_) #[true, true, true, true, true, true, true, true, true, true, true, true, true, true, true, true, false, true, true, true, true, true, false, false, false, false, false, false] rfl rfl (any_of HT_.out z4_) (fun _ _ _ h => h) (Or.inl ⟨by rfl, ?_⟩) ?_ ?_; rotate_left
                              · intro w'; go_simp; with_reducible rfl
                              rotate_left
                              · simp only [Act.put, List.setIfInBounds_toArray, List.set_cons_zero, List.set_cons_succ, i64_w, i32_w]; rfl
                              refine pure_ (i := 22) (N := some 57) (v := ?_) (a' := ?_) #[true, true, true, true, true, true, true, true, true, true, true, true, true, true, true, true, false, true, true, true, true, true, true, false, false, false, false, false] rfl rfl (any_of HT_.out z4_) (fun _ _ _ h => h) (Or.inl ⟨by rfl, ?_⟩) ?_ ?_; rotate_left
                              · intro w'; go_simp; with_reducible rfl
                              rotate_left
                              · simp only [Act.put, List.setIfInBounds_toArray, List.set_cons_zero, List.set_cons_succ, i64_w, i32_w]; rfl
                              refine take_ (i := 16) (N := some 51) (v := ?_) (a' := ?_) #[true, true, true, true, true, true, true, true, true, true, true, true, true, true, true, true, true, true, true, true, true, true, true, false, false, false, false, false] rfl rfl (take_ofW HT_.out HW_.out z4_) (fun _ _ _ h => h) (Or.inl ⟨by rfl, ?_⟩) hHeld ?_ ?_; rotate_left
                              · rintro w' ⟨s0, s1⟩; go_simp; with_reducible rfl
                              rotate_left
                              · simp only [Act.put, List.setIfInBounds_toArray, List.set_cons_zero, List.set_cons_succ, i64_w, i32_w]; rfl
                              refine take_ (i := 23) (N := some 58) (v := ?_) (a' := ?_) #[true, true, true, true, true, true, true, true, true, true, true, true, true, true, true, true, true, true, true, true, true, true, true, true, false, false, false, false] rfl rfl (take_ofW HT_.out HW_.out z4_) (fun _ _ _ h => h) (Or.inl ⟨by rfl, ?_⟩) hHeld ?_ ?_; rotate_left
                              · rintro w' ⟨s0, s1⟩; go_simp; with_reducible rfl
                              rotate_left
                              · simp only [Act.put, List.setIfInBounds_toArray, List.set_cons_zero, List.set_cons_succ, i64_w, i32_w]; rfl
                              refine one_ (i := 24) (N := some 59) #[true, true, true, true, true, true, true, true, true, true, true, true, true, true, true, true, true, true, true, true, true, true, true, true, true, false, false, false] rfl rfl (one_of HT_.out z4_) (by decide) (fun K hK => ?_); refine goes_ Try.func63 z4_ rfl #[.int .i64 (Arr.vrd2 16 t190 a2 a3), .int .i64 (Arr.vrd2 16 t190 a3 a4)] (by rfl) rfl rfl z2_ ?_; (with_reducible refine (spec_l00Min.calls (Arr.vrd2 16 t190 a2 a3) (Arr.vrd2 16 t190 a3 a4) t192 _ A34.out).mono ?_); rintro e w37 ⟨rfl, hb⟩; refine ⟨_, rfl, ?_⟩; have n0_ := Aside0.mk (IsS92.below z12_ hb); have n1_ := Aside0.mk (below_step z16_ hb); clear HI191; clear HB; have HI191 := n0_; have HB := n1_; clear n0_ n1_; (try clear hb); (try clear hb2); (try clear hk); (try clear hi); refine hK.out _ _ ⟨(Arr.cellN (off := 0) (l := (Arr.arL .i64 t190)) ((HI191.out).1) rfl (a2.toNat * 16 + a3.toNat) (a2.toNat * 16 + a3.toNat) (by omega) z56_), (Arr.cellN (off := 0) (l := (Arr.arL .i64 t190)) ((HI191.out).1) rfl (a3.toNat * 16 + a4.toNat) (a3.toNat * 16 + a4.toNat) (by omega) z72_)⟩ (fun hHeld => ?_); clear hK K; refine norm_ (a' := ?_) ?_ ?_; rotate_left
                              · show Act.put _ (some 59) _ = _; simp only [Act.put, List.setIfInBounds_toArray, List.set_cons_zero, List.set_cons_succ, i64_w, i32_w]; rfl
                              refine one_ (i := 25) (N := some 60) #[true, true, true, true, true, true, true, true, true, true, true, true, true, true, true, true, true, true, true, true, true, true, true, true, true, true, false, false] rfl rfl (one_of HT_.out z4_) (by decide) (fun K hK => ?_); refine goes_ Try.func72 z4_ rfl #[.int .i64 a5, .int .i64 1, .int .i64 t192] (by rfl) rfl rfl z2_ ?_; (with_reducible refine (spec_l00In.calls a5 1 t192 t193 _ A35.out).mono ?_); rintro e w' ⟨rfl, ⟨nd, rfl⟩⟩; refine ⟨_, rfl, ?_⟩; refine hK.out _ _ ⟨(Arr.cellN (off := 0) (l := (Arr.arL .i64 t190)) ((HI191.out).1) rfl (a2.toNat * 16 + a3.toNat) (a2.toNat * 16 + a3.toNat) (by omega) z56_), (Arr.cellN (off := 0) (l := (Arr.arL .i64 t190)) ((HI191.out).1) rfl (a3.toNat * 16 + a4.toNat) (a3.toNat * 16 + a4.toNat) (by omega) z72_)⟩ (fun hHeld => ?_); clear hK K; refine norm_ (a' := ?_) ?_ ?_; rotate_left
                              · show Act.put _ (some 60) _ = _; simp only [Act.put, List.setIfInBounds_toArray, List.set_cons_zero, List.set_cons_succ, i64_w, i32_w]; rfl
                              refine pure_ (i := 26) (N := some 61) (v := ?_) (a' := ?_) #[true, true, true, true, true, true, true, true, true, true, true, true, true, true, true, true, true, true, true, true, true, true, true, true, true, true, true, false] rfl rfl (any_of HT_.out z4_) (fun _ _ _ h => h) (Or.inl ⟨by rfl, ?_⟩) ?_ ?_; rotate_left
                              · intro w'; go_simp; with_reducible rfl
                              rotate_left
                              · simp only [Act.put, List.setIfInBounds_toArray, List.set_cons_zero, List.set_cons_succ, i64_w, i32_w]; rfl
                              refine pure_ (i := 27) (N := some 62) (v := ?_) (a' := ?_) #[true, true, true, true, true, true, true, true, true, true, true, true, true, true, true, true, true, true, true, true, true, true, true, true, true, true, true, true] rfl rfl (any_of HT_.out z4_) (fun _ _ _ h => h) (Or.inl ⟨by rfl, ?_⟩) ?_ ?_; rotate_left
                              · intro w'; go_simp; with_reducible rfl
                              rotate_left
                              · simp only [Act.put, List.setIfInBounds_toArray, List.set_cons_zero, List.set_cons_succ, i64_w, i32_w]; rfl
                              refine done_ (done_of HT_.out z4_) ?_; (try go_wp2); go_meet
                              case rel => exact ⟨_, (!t193), z5_, H', ⟨by have := HJ7.out; have := HJ11.out; first | omega | exact Nat.le_refl _⟩, ⟨z12_⟩, ⟨z16_⟩⟩
                            · rw [if_neg c31] at H; exact absurd H (by simp)
                          · rw [if_neg c30] at H; exact absurd H (by simp)
                        · rw [if_neg c26] at H; exact absurd H (by simp)
                      · rw [if_neg c25] at H; exact absurd H (by simp)
                    · rw [if_neg c23] at H; exact absurd H (by simp)
                  · rw [if_neg c22] at H; exact absurd H (by simp)
            case rest =>
              clear HC16; (try clear c1); (try clear c2); (try clear p2); (try clear q2); (try clear c3); (try clear p3); (try clear q3); (try clear c6); (try clear c7); (try clear c18); (try clear c18b0); (try clear c18b1); (try clear c20); (try clear c20b0); (try clear c20b1); (try clear c22); (try clear c22b0); (try clear c23); (try clear c23b0); (try clear p24); (try clear q24); (try clear c25); (try clear c25b0); (try clear c26); (try clear c26b0); (try clear p27); (try clear q27); (try clear p29); (try clear q29); (try clear c30); (try clear c30b0); (try clear c31); (try clear c31b0); (try clear p32); (try clear q32); (try clear p24); (try clear p27); (try clear p29); (try clear p32); (try clear q24); (try clear q27); (try clear q29); (try clear q32); obtain ⟨kq, x62_15, rfl, HA, HJ15, HI191, HB⟩ := hcut
              cases kq with
              | zero => exact absurd HA.out (by simp [spec_PassDebt.j2])
              | succ kj15 =>
                have H := HA.out; clear HA; simp only [spec_PassDebt.j2] at H; by_cases c38 : x62_15 = true
                · subst c38; (have H1 : (some ((([] : List (S65))), 4)) = some (r1, r2) := z41_); clear H; have H := H1; clear H1; obtain ⟨y194, hy194⟩ : ∃ y_ : List (S65), y_ = (([] : List (S65))) := ⟨_, rfl⟩; (replace H : (some (y194, 4)) = some (r1, r2) := by first | (rw [hy194]; with_reducible exact H) | (have H2_ := (Option.bind_some _ _).symm.trans H; rw [hy194]; with_reducible exact H2_) | (have H2_ := (Option.bind_some _ _).symm.trans H; with_reducible exact H2_) | with_reducible exact H | (rw [hy194]; exact H) | exact H); have Ny194 := Aside0.mk hy194; clear hy194; simp only [Option.some.injEq, Prod.mk.injEq] at H; obtain ⟨rfl, rfl⟩ := H; go_wp2_with (first | ((with_reducible refine gate_dst (N := 63) rfl ?_); refine Kd.R_lit k65 _ 65 ?hg (N := 63) ?hd (xs := ([] : List (S65))) (inner := []) (ok := fun _ => True) (okp := fun _ => True) ?hr ?hp (fun _ hk => hk) trivial (Below.refl _ _) (Nat.le_refl _) (by simp) ?_; (case hd => rfl); (case hg => rfl); (case hr => first | (go_simp; done) | (go_simp; rfl)); (case hp => exact (Reps.none _ _)); intro v195 w39 ho40 hb hg_ hnew_; clear hg_ hnew_; (first | rw [← Ny194.out] at ho40 | (simp only [Int.reduceToNat] at ho40; rw [← Ny194.out] at ho40)); have n0_ := Aside0.mk (Kd.R_lower ho40 (below_size z16_)); have n1_ := Aside0.mk (IsS92.below z12_ hb); have n2_ := Aside0.mk (below_step z16_ hb); clear HI191; clear HB; have HO196 := n0_; have HI191 := n1_; have HB := n2_; clear n0_ n1_ n2_; clear hb ho40)); go_ret2; exact ⟨_, z3_, by (with_reducible repeat (first | apply Kd.R_alloc | apply Kd.R_drewN | apply Kd.R_drew)); exact HO196.out, z16_⟩
                · replace c38 := Bool.eq_false_iff.mpr c38; subst c38; (have H1 : (if 0 ≤ a2 then (if a2 < 16 then (if 0 ≤ a3 then (if a3 < 16 then ((some (Arr.vst2 16 t190 a2 a3 (wrap64 ((Arr.vrd2 16 t190 a2 a3) - a5)) : Vector Int 256)).bind fun y197 => (if 0 ≤ a4 then (if a4 < 16 then ((some (Arr.vst2 16 y197 a3 a4 (wrap64 ((Arr.vrd2 16 y197 a3 a4) - a5)) : Vector Int 256)).bind fun y198 => (if a2 = a4 then ((spec_l02List.f kj15 y198).bind fun bt199 => (some (bt199.1, bt199.2.1))) else ((spec_l02List.f kj15 (Arr.vst2 16 y198 a2 a4 (wrap64 ((Arr.vrd2 16 y198 a2 a4) + a5)))).bind fun bt205 => (some (bt205.1, bt205.2.1))))) else (none)) else (none))) else (none)) else (none)) else (none)) else (none)) = some (r1, r2) := z18_); clear H; have H := H1; clear H1; by_cases c41 : 0 ≤ a2
                  · rw [if_pos c41] at H; have c41b0 : decide (0 ≤ a2) = true := decide_eq_true c41; clear c41; by_cases c42 : a2 < 16
                    · rw [if_pos c42] at H; have c42b0 : decide (a2 < 16) = true := decide_eq_true c42; clear c42; by_cases c44 : 0 ≤ a3
                      · rw [if_pos c44] at H; have c44b0 : decide (0 ≤ a3) = true := decide_eq_true c44; clear c44; by_cases c45 : a3 < 16
                        · rw [if_pos c45] at H; have c45b0 : decide (a3 < 16) = true := decide_eq_true c45; clear c45; obtain ⟨y197, hy197⟩ : ∃ y_ : Vector Int 256, y_ = (Arr.vst2 16 t190 a2 a3 (wrap64 ((Arr.vrd2 16 t190 a2 a3) - a5))) := ⟨_, rfl⟩; (replace H : (if 0 ≤ a4 then (if a4 < 16 then ((some (Arr.vst2 16 y197 a3 a4 (wrap64 ((Arr.vrd2 16 y197 a3 a4) - a5)) : Vector Int 256)).bind fun y198 => (if a2 = a4 then ((spec_l02List.f kj15 y198).bind fun bt199 => (some (bt199.1, bt199.2.1))) else ((spec_l02List.f kj15 (Arr.vst2 16 y198 a2 a4 (wrap64 ((Arr.vrd2 16 y198 a2 a4) + a5)))).bind fun bt205 => (some (bt205.1, bt205.2.1))))) else (none)) else (none)) = some (r1, r2) := by first | (rw [hy197]; with_reducible exact H) | (have H2_ := (Option.bind_some _ _).symm.trans H; rw [hy197]; with_reducible exact H2_) | (have H2_ := (Option.bind_some _ _).symm.trans H; with_reducible exact H2_) | with_reducible exact H | (rw [hy197]; exact H) | exact H); have Ny197 := Aside0.mk hy197; clear hy197; by_cases c52 : 0 ≤ a4
                          · rw [if_pos c52] at H; have c52b0 : decide (0 ≤ a4) = true := decide_eq_true c52; clear c52; by_cases c53 : a4 < 16
                            · rw [if_pos c53] at H; have c53b0 : decide (a4 < 16) = true := decide_eq_true c53; clear c53; obtain ⟨y198, hy198⟩ : ∃ y_ : Vector Int 256, y_ = (Arr.vst2 16 y197 a3 a4 (wrap64 ((Arr.vrd2 16 y197 a3 a4) - a5))) := ⟨_, rfl⟩; (replace H : (if a2 = a4 then ((spec_l02List.f kj15 y198).bind fun bt199 => (some (bt199.1, bt199.2.1))) else ((spec_l02List.f kj15 (Arr.vst2 16 y198 a2 a4 (wrap64 ((Arr.vrd2 16 y198 a2 a4) + a5)))).bind fun bt205 => (some (bt205.1, bt205.2.1)))) = some (r1, r2) := by first | (rw [hy198]; with_reducible exact H) | (have H2_ := (Option.bind_some _ _).symm.trans H; rw [hy198]; with_reducible exact H2_) | (have H2_ := (Option.bind_some _ _).symm.trans H; with_reducible exact H2_) | with_reducible exact H | (rw [hy198]; exact H) | exact H); have Ny198 := Aside0.mk hy198; clear hy198; by_cases c59 : a2 = a4
                              · rw [if_pos c59] at H; have c59b0 : (a2 == a4) = true := beq_iff_eq.mpr c59; have c59b1 : (a2 != a4) = false := bne_eq_false_iff_eq.mpr c59; clear c59; replace H := Option.bind_eq_some_iff.mp H; obtain ⟨⟨t199, t202, t203⟩, A600, H⟩ := H; replace H : (some (t199, t202)) = some (r1, r2) := H; have A60 := Aside0.mk A600; clear A600; simp only [Option.some.injEq, Prod.mk.injEq] at H; obtain ⟨rfl, rfl⟩ := H; (try go_wp2); have n0_ := Aside0.mk (IsS92.drew HI191.out); have n1_ := Aside0.mk (below_drew1 HB.out); clear HI191; clear HB; have HI191 := n0_; have HB := n1_; clear n0_ n1_; have p43 : 0 ≤ (a2 : Int) := of_decide_eq_true z1_; have q43 : (a2 : Int) < 16 := of_decide_eq_true z1_; replace p43 := eq_true p43; replace q43 := eq_true q43; have p46 : 0 ≤ (a3 : Int) := of_decide_eq_true z1_; have q46 : (a3 : Int) < 16 := of_decide_eq_true z1_; replace p46 := eq_true p46; replace q46 := eq_true q46; have p48 : 0 ≤ (a2 : Int) := of_decide_eq_true z1_; have q48 : (a2 : Int) < 16 := of_decide_eq_true z1_; replace p48 := eq_true p48; replace q48 := eq_true q48; have p49 : 0 ≤ (a3 : Int) := of_decide_eq_true z1_; have q49 : (a3 : Int) < 16 := of_decide_eq_true z1_; replace p49 := eq_true p49; replace q49 := eq_true q49; refine start_ (n := 13) (S := fun w' => w'.cell? ⟨g191, a2.toNat * 16 + a3.toNat, none⟩ = some (.int .i64 (Arr.vrd2 16 t190 a2 a3))) (ds := [12]) #[false, false, false, false, false, false, false, false, false, false, false, false, false] z4_ rfl rfl ((Arr.cellN (off := 0) (l := (Arr.arL .i64 t190)) ((HI191.out).1) rfl (a2.toNat * 16 + a3.toNat) (a2.toNat * 16 + a3.toNat) (by omega) (by have a0_ := of_eq_true p43; have b0_ := of_eq_true q43; have a1_ := of_eq_true p46; have b1_ := of_eq_true q46; omega))) (fun hHeld => ?_); refine with_tabW spec_PassDebt.tab9 spec_PassDebt.bits9 (fun HT_ HW_ => ?_); generalize wc.drew = w61 at HI191 HB hHeld ⊢; refine pure_ (i := 0) (N := some 64) (v := ?_) (a' := ?_) #[true, false, false, false, false, false, false, false, false, false, false, false, false] rfl rfl (any_of HT_.out z4_) (fun _ _ _ h => h) (Or.inl ⟨by rfl, ?_⟩) ?_ ?_; rotate_left
                                · intro w'; go_simp; with_reducible rfl
                                rotate_left
                                · simp only [Act.put, List.setIfInBounds_toArray, List.set_cons_zero, List.set_cons_succ, i64_w, i32_w]; rfl
                                refine pure_ (i := 1) (N := some 65) (v := ?_) (a' := ?_) #[true, true, false, false, false, false, false, false, false, false, false, false, false] rfl rfl (any_of HT_.out z4_) (fun _ _ _ h => h) (Or.inl ⟨by rfl, ?_⟩) ?_ ?_; rotate_left
                                · intro w'; go_simp; with_reducible rfl
                                rotate_left
                                · simp only [Act.put, List.setIfInBounds_toArray, List.set_cons_zero, List.set_cons_succ, i64_w, i32_w]; rfl
                                refine pure_ (i := 2) (N := some 66) (v := ?_) (a' := ?_) #[true, true, true, false, false, false, false, false, false, false, false, false, false] rfl rfl (any_of HT_.out z4_) (fun _ _ _ h => h) (Or.inl ⟨by rfl, ?_⟩) ?_ ?_; rotate_left
                                · intro w'; go_simp; with_reducible rfl
                                rotate_left
                                · simp only [Act.put, List.setIfInBounds_toArray, List.set_cons_zero, List.set_cons_succ, i64_w, i32_w]; rfl
                                refine pure_ (i := 3) (N := some 67) (v := ?_) (a' := ?_) #[true, true, true, true, false, false, false, false, false, false, false, false, false] rfl rfl (any_of HT_.out z4_) (fun _ _ _ h => h) (Or.inl ⟨by rfl, ?_⟩) ?_ ?_; rotate_left
                                · intro w'; go_simp; with_reducible rfl
                                rotate_left
                                · simp only [Act.put, List.setIfInBounds_toArray, List.set_cons_zero, List.set_cons_succ, i64_w, i32_w]; rfl
                                refine pure_ (i := 4) (N := some 68) (v := ?_) (a' := ?_) #[true, true, true, true, true, false, false, false, false, false, false, false, false] rfl rfl (any_of HT_.out z4_) (fun _ _ _ h => h) (Or.inl ⟨by rfl, ?_⟩) ?_ ?_; rotate_left
                                · intro w'; go_simp; with_reducible rfl
                                rotate_left
                                · simp only [Act.put, List.setIfInBounds_toArray, List.set_cons_zero, List.set_cons_succ, i64_w, i32_w]; rfl
                                refine pure_ (i := 5) (N := some 69) (v := ?_) (a' := ?_) #[true, true, true, true, true, true, false, false, false, false, false, false, false] rfl rfl (any_of HT_.out z4_) (fun _ _ _ h => h) (Or.inl ⟨by rfl, ?_⟩) ?_ ?_; rotate_left
                                · intro w'; go_simp; with_reducible rfl
                                rotate_left
                                · simp only [Act.put, List.setIfInBounds_toArray, List.set_cons_zero, List.set_cons_succ, i64_w, i32_w]; rfl
                                refine pure_ (i := 7) (N := some 71) (v := ?_) (a' := ?_) #[true, true, true, true, true, true, false, true, false, false, false, false, false] rfl rfl (any_of HT_.out z4_) (fun _ _ _ h => h) (Or.inl ⟨by rfl, ?_⟩) ?_ ?_; rotate_left
                                · intro w'; go_simp; with_reducible rfl
                                rotate_left
                                · simp only [Act.put, List.setIfInBounds_toArray, List.set_cons_zero, List.set_cons_succ, i64_w, i32_w]; rfl
                                refine pure_ (i := 9) (N := some 73) (v := ?_) (a' := ?_) #[true, true, true, true, true, true, false, true, false, true, false, false, false] rfl rfl (any_of HT_.out z4_) (fun _ _ _ h => h) (Or.inl ⟨by rfl, ?_⟩) ?_ ?_; rotate_left
                                · intro w'; go_simp; with_reducible rfl
                                rotate_left
                                · simp only [Act.put, List.setIfInBounds_toArray, List.set_cons_zero, List.set_cons_succ, i64_w, i32_w]; rfl
                                refine pure_ (i := 10) (N := some 74) (v := ?_) (a' := ?_) #[true, true, true, true, true, true, false, true, false, true, true, false, false] rfl rfl (any_of HT_.out z4_) (fun _ _ _ h => h) (Or.inl ⟨by rfl, ?_⟩) ?_ ?_; rotate_left
                                · intro w'; go_simp; with_reducible rfl
                                rotate_left
                                · simp only [Act.put, List.setIfInBounds_toArray, List.set_cons_zero, List.set_cons_succ, i64_w, i32_w]; rfl
                                refine take_ (i := 6) (N := some 70) (v := ?_) (a' := ?_) #[true, true, true, true, true, true, true, true, false, true, true, false, false] rfl rfl (take_ofW HT_.out HW_.out z4_) (fun _ _ _ h => h) (Or.inl ⟨by rfl, ?_⟩) hHeld ?_ ?_; rotate_left
                                · intro w' s0; go_simp; with_reducible rfl
                                rotate_left
                                · simp only [Act.put, List.setIfInBounds_toArray, List.set_cons_zero, List.set_cons_succ, i64_w, i32_w]; rfl
                                refine pure_ (i := 8) (N := some 72) (v := ?_) (a' := ?_) #[true, true, true, true, true, true, true, true, true, true, true, false, false] rfl rfl (any_of HT_.out z4_) (fun _ _ _ h => h) (Or.inl ⟨by rfl, ?_⟩) ?_ ?_; rotate_left
                                · intro w'; go_simp; with_reducible rfl
                                rotate_left
                                · simp only [Act.put, List.setIfInBounds_toArray, List.set_cons_zero, List.set_cons_succ, i64_w, i32_w]; rfl
                                refine pure_ (i := 11) (N := some 75) (v := ?_) (a' := ?_) #[true, true, true, true, true, true, true, true, true, true, true, true, false] rfl rfl (any_of HT_.out z4_) (fun _ _ _ h => h) (Or.inl ⟨by rfl, ?_⟩) ?_ ?_; rotate_left
                                · intro w'; go_simp; with_reducible rfl
                                rotate_left
                                · simp only [Act.put, List.setIfInBounds_toArray, List.set_cons_zero, List.set_cons_succ, i64_w, i32_w]; rfl
                                refine last_ (i := 12) (N := none) #[true, true, true, true, true, true, true, true, true, true, true, true, true] rfl rfl (one_of HT_.out z4_) (by decide) (fun K hK => ?_); have hx50 : w61.cell? ⟨g191, a2.toNat * 16 + a3.toNat, none⟩ = some (.int .i64 (Arr.vrd2 16 t190 a2 a3)) := Arr.cellN (off := 0) (l := (Arr.arL .i64 t190)) ((show IsS92 w w61 g191 t190 from z12_).1) rfl (a2.toNat * 16 + a3.toNat) (a2.toNat * 16 + a3.toNat) (by omega) (by have a0_ := of_eq_true p48; have b0_ := of_eq_true q48; have a1_ := of_eq_true p49; have b1_ := of_eq_true q49; omega); have hf50 := blk_frozen ((show IsS92 w w61 g191 t190 from z12_).1) (a2.toNat * 16 + a3.toNat); refine skip_ (w1 := w61.setCell ⟨g191, a2.toNat * 16 + a3.toNat, none⟩ (.int .i64 (wrap64 ((Arr.vrd2 16 t190 a2 a3) - a5)))) (by rfl) rfl ?_ ?_
                                · first | (go_simp; done) | (go_simp; rfl)
                                refine hK.out _ _ ?_; clear hK K; refine done_ (done_of HT_.out z4_) ?_; obtain ⟨w62, hw_, hbx, hg, hbe⟩ := Arr.stored_at (g := g191) (off := 0) (m := a2.toNat * 16 + a3.toNat) (n := a2.toNat * 16 + a3.toNat) (k := .i64) (y := (wrap64 ((Arr.vrd2 16 t190 a2 a3) - a5))) (x := t190) (t := 92) (pre := []) ((show IsS92 w w61 g191 t190 from z12_).1) rfl (by omega); rw [hw_]; clear hw_; replace hbx : w62.heap[g191]? = some (.cells (⟨Arr.arL .i64 y197⟩ : Array Value) 92 (0, 0)) := (by rw [Ny197.out]; exact hbx); have n0_ := Aside0.mk ((⟨hbx, (HI191.out).2⟩ : IsS92 w w62 g191 y197)); have n1_ := Aside0.mk (hbe _ _ z16_ (IsS92.ge HI191.out)); clear HI191; clear HB; have HI191 := n0_; have HB := n1_; clear n0_ n1_; (try clear hbx hg hbe); (try go_wp2); have n0_ := Aside0.mk (IsS92.drew HI191.out); have n1_ := Aside0.mk (below_drew1 HB.out); clear HI191; clear HB; have HI191 := n0_; have HB := n1_; clear n0_ n1_; have p51 : 0 ≤ (a3 : Int) := of_decide_eq_true z1_; have q51 : (a3 : Int) < 16 := of_decide_eq_true z1_; replace p51 := eq_true p51; replace q51 := eq_true q51; have p54 : 0 ≤ (a4 : Int) := of_decide_eq_true z1_; have q54 : (a4 : Int) < 16 := of_decide_eq_true z1_; replace p54 := eq_true p54; replace q54 := eq_true q54; have p56 : 0 ≤ (a3 : Int) := of_decide_eq_true z1_; have q56 : (a3 : Int) < 16 := of_decide_eq_true z1_; replace p56 := eq_true p56; replace q56 := eq_true q56; have p57 : 0 ≤ (a4 : Int) := of_decide_eq_true z1_; have q57 : (a4 : Int) < 16 := of_decide_eq_true z1_; replace p57 := eq_true p57; replace q57 := eq_true q57; refine start_ (n := 13) (S := fun w' => w'.cell? ⟨g191, a3.toNat * 16 + a4.toNat, none⟩ = some (.int .i64 (Arr.vrd2 16 y197 a3 a4))) (ds := [12]) #[false, false, false, false, false, false, false, false, false, false, false, false, false] z4_ rfl rfl ((Arr.cellN (off := 0) (l := (Arr.arL .i64 y197)) ((HI191.out).1) rfl (a3.toNat * 16 + a4.toNat) (a3.toNat * 16 + a4.toNat) (by omega) (by have a0_ := of_eq_true p51; have b0_ := of_eq_true q51; have a1_ := of_eq_true p54; have b1_ := of_eq_true q54; omega))) (fun hHeld => ?_); refine with_tabW spec_PassDebt.tab10 spec_PassDebt.bits10 (fun HT_ HW_ => ?_); generalize w62.drew = w63 at HI191 HB hHeld ⊢; refine pure_ (i := 0) (N := some 76) (v := ?_) (a' := ?_) #[true, false, false, false, false, false, false, false, false, false, false, false, false] rfl rfl (any_of HT_.out z4_) (fun _ _ _ h => h) (Or.inl ⟨by rfl, ?_⟩) ?_ ?_; rotate_left
                                · intro w'; go_simp; with_reducible rfl
                                rotate_left
                                · simp only [Act.put, List.setIfInBounds_toArray, List.set_cons_zero, List.set_cons_succ, i64_w, i32_w]; rfl
                                refine pure_ (i := 1) (N := some 77) (v := ?_) (a' := ?_) #[true, true, false, false, false, false, false, false, false, false, false, false, false] rfl rfl (any_of HT_.out z4_) (fun _ _ _ h => h) (Or.inl ⟨by rfl, ?_⟩) ?_ ?_; rotate_left
                                · intro w'; go_simp; with_reducible rfl
                                rotate_left
                                · simp only [Act.put, List.setIfInBounds_toArray, List.set_cons_zero, List.set_cons_succ, i64_w, i32_w]; rfl
                                refine pure_ (i := 2) (N := some 78) (v := ?_) (a' := ?_) #[true, true, true, false, false, false, false, false, false, false, false, false, false] rfl rfl (any_of HT_.out z4_) (fun _ _ _ h => h) (Or.inl ⟨by rfl, ?_⟩) ?_ ?_; rotate_left
                                · intro w'; go_simp; with_reducible rfl
                                rotate_left
                                · simp only [Act.put, List.setIfInBounds_toArray, List.set_cons_zero, List.set_cons_succ, i64_w, i32_w]; rfl
                                refine pure_ (i := 3) (N := some 79) (v := ?_) (a' := ?_) #[true, true, true, true, false, false, false, false, false, false, false, false, false] rfl rfl (any_of HT_.out z4_) (fun _ _ _ h => h) (Or.inl ⟨by rfl, ?_⟩) ?_ ?_; rotate_left
                                · intro w'; go_simp; with_reducible rfl
                                rotate_left
                                · simp only [Act.put, List.setIfInBounds_toArray, List.set_cons_zero, List.set_cons_succ, i64_w, i32_w]; rfl
                                refine pure_ (i := 4) (N := some 80) (v := ?_) (a' := ?_) #[true, true, true, true, true, false, false, false, false, false, false, false, false] rfl rfl (any_of HT_.out z4_) (fun _ _ _ h => h) (Or.inl ⟨by rfl, ?_⟩) ?_ ?_; rotate_left
                                · intro w'; go_simp; with_reducible rfl
                                rotate_left
                                · simp only [Act.put, List.setIfInBounds_toArray, List.set_cons_zero, List.set_cons_succ, i64_w, i32_w]; rfl
                                refine pure_ (i := 5) (N := some 81) (v := ?_) (a' := ?_) #[true, true, true, true, true, true, false, false, false, false, false, false, false] rfl rfl (any_of HT_.out z4_) (fun _ _ _ h => h) (Or.inl ⟨by rfl, ?_⟩) ?_ ?_; rotate_left
                                · intro w'; go_simp; with_reducible rfl
                                rotate_left
                                · simp only [Act.put, List.setIfInBounds_toArray, List.set_cons_zero, List.set_cons_succ, i64_w, i32_w]; rfl
                                refine pure_ (i := 7) (N := some 83) (v := ?_) (a' := ?_) #[true, true, true, true, true, true, false, true, false, false, false, false, false] rfl rfl (any_of HT_.out z4_) (fun _ _ _ h => h) (Or.inl ⟨by rfl, ?_⟩) ?_ ?_; rotate_left
                                · intro w'; go_simp; with_reducible rfl
                                rotate_left
                                · simp only [Act.put, List.setIfInBounds_toArray, List.set_cons_zero, List.set_cons_succ, i64_w, i32_w]; rfl
                                refine pure_ (i := 9) (N := some 85) (v := ?_) (a' := ?_) #[true, true, true, true, true, true, false, true, false, true, false, false, false] rfl rfl (any_of HT_.out z4_) (fun _ _ _ h => h) (Or.inl ⟨by rfl, ?_⟩) ?_ ?_; rotate_left
                                · intro w'; go_simp; with_reducible rfl
                                rotate_left
                                · simp only [Act.put, List.setIfInBounds_toArray, List.set_cons_zero, List.set_cons_succ, i64_w, i32_w]; rfl
                                refine pure_ (i := 10) (N := some 86) (v := ?_) (a' := ?_) #[true, true, true, true, true, true, false, true, false, true, true, false, false] rfl rfl (any_of HT_.out z4_) (fun _ _ _ h => h) (Or.inl ⟨by rfl, ?_⟩) ?_ ?_; rotate_left
                                · intro w'; go_simp; with_reducible rfl
                                rotate_left
                                · simp only [Act.put, List.setIfInBounds_toArray, List.set_cons_zero, List.set_cons_succ, i64_w, i32_w]; rfl
                                refine take_ (i := 6) (N := some 82) (v := ?_) (a' := ?_) #[true, true, true, true, true, true, true, true, false, true, true, false, false] rfl rfl (take_ofW HT_.out HW_.out z4_) (fun _ _ _ h => h) (Or.inl ⟨by rfl, ?_⟩) hHeld ?_ ?_; rotate_left
                                · intro w' s0; go_simp; with_reducible rfl
                                rotate_left
                                · simp only [Act.put, List.setIfInBounds_toArray, List.set_cons_zero, List.set_cons_succ, i64_w, i32_w]; rfl
                                refine pure_ (i := 8) (N := some 84) (v := ?_) (a' := ?_) #[true, true, true, true, true, true, true, true, true, true, true, false, false] rfl rfl (any_of HT_.out z4_) (fun _ _ _ h => h) (Or.inl ⟨by rfl, ?_⟩) ?_ ?_; rotate_left
                                · intro w'; go_simp; with_reducible rfl
                                rotate_left
                                · simp only [Act.put, List.setIfInBounds_toArray, List.set_cons_zero, List.set_cons_succ, i64_w, i32_w]; rfl
                                refine pure_ (i := 11) (N := some 87) (v := ?_) (a' := ?_) #[true, true, true, true, true, true, true, true, true, true, true, true, false] rfl rfl (any_of HT_.out z4_) (fun _ _ _ h => h) (Or.inl ⟨by rfl, ?_⟩) ?_ ?_; rotate_left
                                · intro w'; go_simp; with_reducible rfl
                                rotate_left
                                · simp only [Act.put, List.setIfInBounds_toArray, List.set_cons_zero, List.set_cons_succ, i64_w, i32_w]; rfl
                                refine last_ (i := 12) (N := none) #[true, true, true, true, true, true, true, true, true, true, true, true, true] rfl rfl (one_of HT_.out z4_) (by decide) (fun K hK => ?_); have hx58 : w63.cell? ⟨g191, a3.toNat * 16 + a4.toNat, none⟩ = some (.int .i64 (Arr.vrd2 16 y197 a3 a4)) := Arr.cellN (off := 0) (l := (Arr.arL .i64 y197)) ((show IsS92 w w63 g191 y197 from z12_).1) rfl (a3.toNat * 16 + a4.toNat) (a3.toNat * 16 + a4.toNat) (by omega) (by have a0_ := of_eq_true p56; have b0_ := of_eq_true q56; have a1_ := of_eq_true p57; have b1_ := of_eq_true q57; omega); have hf58 := blk_frozen ((show IsS92 w w63 g191 y197 from z12_).1) (a3.toNat * 16 + a4.toNat); refine skip_ (w1 := w63.setCell ⟨g191, a3.toNat * 16 + a4.toNat, none⟩ (.int .i64 (wrap64 ((Arr.vrd2 16 y197 a3 a4) - a5)))) (by rfl) rfl ?_ ?_
                                · first | (go_simp; done) | (go_simp; rfl)
                                refine hK.out _ _ ?_; clear hK K; refine done_ (done_of HT_.out z4_) ?_; obtain ⟨w64, hw_, hbx, hg, hbe⟩ := Arr.stored_at (g := g191) (off := 0) (m := a3.toNat * 16 + a4.toNat) (n := a3.toNat * 16 + a4.toNat) (k := .i64) (y := (wrap64 ((Arr.vrd2 16 y197 a3 a4) - a5))) (x := y197) (t := 92) (pre := []) ((show IsS92 w w63 g191 y197 from z12_).1) rfl (by omega); rw [hw_]; clear hw_; replace hbx : w64.heap[g191]? = some (.cells (⟨Arr.arL .i64 y198⟩ : Array Value) 92 (0, 0)) := (by rw [Ny198.out]; exact hbx); have n0_ := Aside0.mk ((⟨hbx, (HI191.out).2⟩ : IsS92 w w64 g191 y198)); have n1_ := Aside0.mk (hbe _ _ z16_ (IsS92.ge HI191.out)); clear HI191; clear HB; have HI191 := n0_; have HB := n1_; clear n0_ n1_; (try clear hbx hg hbe); (try go_wp2_with (first | ((with_reducible refine gate_callee (f := 60) rfl ?_); refine goesL_ (some 104) rfl rfl Try.func60 z4_ rfl #[.pointer (some ⟨g191, 0, none⟩)] rfl z2_ ?_; (with_reducible refine (spec_l02List.calls kj15 g191 y198 t199 t202 t203 w _ ?side1 ?side2 A60.out).mono ?_); (case side1 => repeat (first | (with_reducible first | exact HI191.out | apply IsS92.alloc | apply IsS92.drewN | apply IsS92.drew | apply IsS92.set_0) | exact HI191.out)); (case side2 => repeat (first | (with_reducible first | exact HB.out | apply below_alloc | apply pw_below_drewN | apply below_drew1 | refine below_set ?_ (IsS92.ge HI191.out)) | exact HB.out)); rintro e w65 ⟨v200, rfl, ho0, hi, hb, hk⟩; refine ⟨_, rfl, ?_⟩; have n0_ := Aside0.mk (Kd.R_lower ho0 (below_size z16_)); have n1_ := Aside0.mk (hb); have n2_ := Aside0.mk (hi); clear HB; clear HI191; have HO201 := n0_; have HB := n1_; have HI191 := n2_; clear n0_ n1_ n2_; (try clear hb); (try clear hb2); (try clear hk); (try clear hi); (try clear ho0)))); go_ret2; exact ⟨_, z3_, by (with_reducible repeat (first | apply Kd.R_alloc | apply Kd.R_drewN | apply Kd.R_drew)); exact HO201.out, z16_⟩
                              · rw [if_neg c59] at H; have c59b0 : (a2 == a4) = false := beq_eq_false_iff_ne.mpr c59; have c59b1 : (a2 != a4) = true := bne_iff_ne.mpr c59; obtain ⟨y204, hy204⟩ : ∃ y_ : Vector Int 256, y_ = (Arr.vst2 16 y198 a2 a4 (wrap64 ((Arr.vrd2 16 y198 a2 a4) + a5))) := ⟨_, rfl⟩; (replace H : ((spec_l02List.f kj15 y204).bind fun bt205 => (some (bt205.1, bt205.2.1))) = some (r1, r2) := by first | (rw [hy204]; with_reducible exact H) | (have H2_ := (Option.bind_some _ _).symm.trans H; rw [hy204]; with_reducible exact H2_) | (have H2_ := (Option.bind_some _ _).symm.trans H; with_reducible exact H2_) | with_reducible exact H | (rw [hy204]; exact H) | exact H); have Ny204 := Aside0.mk hy204; clear hy204; replace H := Option.bind_eq_some_iff.mp H; obtain ⟨⟨t205, t208, t209⟩, A720, H⟩ := H; replace H : (some (t205, t208)) = some (r1, r2) := H; have A72 := Aside0.mk A720; clear A720; simp only [Option.some.injEq, Prod.mk.injEq] at H; obtain ⟨rfl, rfl⟩ := H; (try go_wp2); have n0_ := Aside0.mk (IsS92.drew HI191.out); have n1_ := Aside0.mk (below_drew1 HB.out); clear HI191; clear HB; have HI191 := n0_; have HB := n1_; clear n0_ n1_; have p43 : 0 ≤ (a2 : Int) := of_decide_eq_true z1_; have q43 : (a2 : Int) < 16 := of_decide_eq_true z1_; replace p43 := eq_true p43; replace q43 := eq_true q43; have p46 : 0 ≤ (a3 : Int) := of_decide_eq_true z1_; have q46 : (a3 : Int) < 16 := of_decide_eq_true z1_; replace p46 := eq_true p46; replace q46 := eq_true q46; have p48 : 0 ≤ (a2 : Int) := of_decide_eq_true z1_; have q48 : (a2 : Int) < 16 := of_decide_eq_true z1_; replace p48 := eq_true p48; replace q48 := eq_true q48; have p49 : 0 ≤ (a3 : Int) := of_decide_eq_true z1_; have q49 : (a3 : Int) < 16 := of_decide_eq_true z1_; replace p49 := eq_true p49; replace q49 := eq_true q49; refine start_ (n := 13) (S := fun w' => w'.cell? ⟨g191, a2.toNat * 16 + a3.toNat, none⟩ = some (.int .i64 (Arr.vrd2 16 t190 a2 a3))) (ds := [12]) #[false, false, false, false, false, false, false, false, false, false, false, false, false] z4_ rfl rfl ((Arr.cellN (off := 0) (l := (Arr.arL .i64 t190)) ((HI191.out).1) rfl (a2.toNat * 16 + a3.toNat) (a2.toNat * 16 + a3.toNat) (by omega) (by have a0_ := of_eq_true p43; have b0_ := of_eq_true q43; have a1_ := of_eq_true p46; have b1_ := of_eq_true q46; omega))) (fun hHeld => ?_); refine with_tabW spec_PassDebt.tab9 spec_PassDebt.bits9 (fun HT_ HW_ => ?_); generalize wc.drew = w73 at HI191 HB hHeld ⊢; refine pure_ (i := 0) (N := some 64) (v := ?_) (a' := ?_) #[true, false, false, false, false, false, false, false, false, false, false, false, false] rfl rfl (any_of HT_.out z4_) (fun _ _ _ h => h) (Or.inl ⟨by rfl, ?_⟩) ?_ ?_; rotate_left
                                · intro w'; go_simp; with_reducible rfl
                                rotate_left
                                · simp only [Act.put, List.setIfInBounds_toArray, List.set_cons_zero, List.set_cons_succ, i64_w, i32_w]; rfl
                                refine pure_ (i := 1) (N := some 65) (v := ?_) (a' := ?_) #[true, true, false, false, false, false, false, false, false, false, false, false, false] rfl rfl (any_of HT_.out z4_) (fun _ _ _ h => h) (Or.inl ⟨by rfl, ?_⟩) ?_ ?_; rotate_left
                                · intro w'; go_simp; with_reducible rfl
                                rotate_left
                                · simp only [Act.put, List.setIfInBounds_toArray, List.set_cons_zero, List.set_cons_succ, i64_w, i32_w]; rfl
                                refine pure_ (i := 2) (N := some 66) (v := ?_) (a' := ?_) #[true, true, true, false, false, false, false, false, false, false, false, false, false] rfl rfl (any_of HT_.out z4_) (fun _ _ _ h => h) (Or.inl ⟨by rfl, ?_⟩) ?_ ?_; rotate_left
                                · intro w'; go_simp; with_reducible rfl
                                rotate_left
                                · simp only [Act.put, List.setIfInBounds_toArray, List.set_cons_zero, List.set_cons_succ, i64_w, i32_w]; rfl
                                refine pure_ (i := 3) (N := some 67) (v := ?_) (a' := ?_) #[true, true, true, true, false, false, false, false, false, false, false, false, false] rfl rfl (any_of HT_.out z4_) (fun _ _ _ h => h) (Or.inl ⟨by rfl, ?_⟩) ?_ ?_; rotate_left
                                · intro w'; go_simp; with_reducible rfl
                                rotate_left
                                · simp only [Act.put, List.setIfInBounds_toArray, List.set_cons_zero, List.set_cons_succ, i64_w, i32_w]; rfl
                                refine pure_ (i := 4) (N := some 68) (v := ?_) (a' := ?_) #[true, true, true, true, true, false, false, false, false, false, false, false, false] rfl rfl (any_of HT_.out z4_) (fun _ _ _ h => h) (Or.inl ⟨by rfl, ?_⟩) ?_ ?_; rotate_left
                                · intro w'; go_simp; with_reducible rfl
                                rotate_left
                                · simp only [Act.put, List.setIfInBounds_toArray, List.set_cons_zero, List.set_cons_succ, i64_w, i32_w]; rfl
                                refine pure_ (i := 5) (N := some 69) (v := ?_) (a' := ?_) #[true, true, true, true, true, true, false, false, false, false, false, false, false] rfl rfl (any_of HT_.out z4_) (fun _ _ _ h => h) (Or.inl ⟨by rfl, ?_⟩) ?_ ?_; rotate_left
                                · intro w'; go_simp; with_reducible rfl
                                rotate_left
                                · simp only [Act.put, List.setIfInBounds_toArray, List.set_cons_zero, List.set_cons_succ, i64_w, i32_w]; rfl
                                refine pure_ (i := 7) (N := some 71) (v := ?_) (a' := ?_) #[true, true, true, true, true, true, false, true, false, false, false, false, false] rfl rfl (any_of HT_.out z4_) (fun _ _ _ h => h) (Or.inl ⟨by rfl, ?_⟩) ?_ ?_; rotate_left
                                · intro w'; go_simp; with_reducible rfl
                                rotate_left
                                · simp only [Act.put, List.setIfInBounds_toArray, List.set_cons_zero, List.set_cons_succ, i64_w, i32_w]; rfl
                                refine pure_ (i := 9) (N := some 73) (v := ?_) (a' := ?_) #[true, true, true, true, true, true, false, true, false, true, false, false, false] rfl rfl (any_of HT_.out z4_) (fun _ _ _ h => h) (Or.inl ⟨by rfl, ?_⟩) ?_ ?_; rotate_left
                                · intro w'; go_simp; with_reducible rfl
                                rotate_left
                                · simp only [Act.put, List.setIfInBounds_toArray, List.set_cons_zero, List.set_cons_succ, i64_w, i32_w]; rfl
                                refine pure_ (i := 10) (N := some 74) (v := ?_) (a' := ?_) #[true, true, true, true, true, true, false, true, false, true, true, false, false] rfl rfl (any_of HT_.out z4_) (fun _ _ _ h => h) (Or.inl ⟨by rfl, ?_⟩) ?_ ?_; rotate_left
                                · intro w'; go_simp; with_reducible rfl
                                rotate_left
                                · simp only [Act.put, List.setIfInBounds_toArray, List.set_cons_zero, List.set_cons_succ, i64_w, i32_w]; rfl
                                refine take_ (i := 6) (N := some 70) (v := ?_) (a' := ?_) #[true, true, true, true, true, true, true, true, false, true, true, false, false] rfl rfl (take_ofW HT_.out HW_.out z4_) (fun _ _ _ h => h) (Or.inl ⟨by rfl, ?_⟩) hHeld ?_ ?_; rotate_left
                                · intro w' s0; go_simp; with_reducible rfl
                                rotate_left
                                · simp only [Act.put, List.setIfInBounds_toArray, List.set_cons_zero, List.set_cons_succ, i64_w, i32_w]; rfl
                                refine pure_ (i := 8) (N := some 72) (v := ?_) (a' := ?_) #[true, true, true, true, true, true, true, true, true, true, true, false, false] rfl rfl (any_of HT_.out z4_) (fun _ _ _ h => h) (Or.inl ⟨by rfl, ?_⟩) ?_ ?_; rotate_left
                                · intro w'; go_simp; with_reducible rfl
                                rotate_left
                                · simp only [Act.put, List.setIfInBounds_toArray, List.set_cons_zero, List.set_cons_succ, i64_w, i32_w]; rfl
                                refine pure_ (i := 11) (N := some 75) (v := ?_) (a' := ?_) #[true, true, true, true, true, true, true, true, true, true, true, true, false] rfl rfl (any_of HT_.out z4_) (fun _ _ _ h => h) (Or.inl ⟨by rfl, ?_⟩) ?_ ?_; rotate_left
                                · intro w'; go_simp; with_reducible rfl
                                rotate_left
                                · simp only [Act.put, List.setIfInBounds_toArray, List.set_cons_zero, List.set_cons_succ, i64_w, i32_w]; rfl
                                refine last_ (i := 12) (N := none) #[true, true, true, true, true, true, true, true, true, true, true, true, true] rfl rfl (one_of HT_.out z4_) (by decide) (fun K hK => ?_); have hx50 : w73.cell? ⟨g191, a2.toNat * 16 + a3.toNat, none⟩ = some (.int .i64 (Arr.vrd2 16 t190 a2 a3)) := Arr.cellN (off := 0) (l := (Arr.arL .i64 t190)) ((show IsS92 w w73 g191 t190 from z12_).1) rfl (a2.toNat * 16 + a3.toNat) (a2.toNat * 16 + a3.toNat) (by omega) (by have a0_ := of_eq_true p48; have b0_ := of_eq_true q48; have a1_ := of_eq_true p49; have b1_ := of_eq_true q49; omega); have hf50 := blk_frozen ((show IsS92 w w73 g191 t190 from z12_).1) (a2.toNat * 16 + a3.toNat); refine skip_ (w1 := w73.setCell ⟨g191, a2.toNat * 16 + a3.toNat, none⟩ (.int .i64 (wrap64 ((Arr.vrd2 16 t190 a2 a3) - a5)))) (by rfl) rfl ?_ ?_
                                · first | (go_simp; done) | (go_simp; rfl)
                                refine hK.out _ _ ?_; clear hK K; refine done_ (done_of HT_.out z4_) ?_; obtain ⟨w74, hw_, hbx, hg, hbe⟩ := Arr.stored_at (g := g191) (off := 0) (m := a2.toNat * 16 + a3.toNat) (n := a2.toNat * 16 + a3.toNat) (k := .i64) (y := (wrap64 ((Arr.vrd2 16 t190 a2 a3) - a5))) (x := t190) (t := 92) (pre := []) ((show IsS92 w w73 g191 t190 from z12_).1) rfl (by omega); rw [hw_]; clear hw_; replace hbx : w74.heap[g191]? = some (.cells (⟨Arr.arL .i64 y197⟩ : Array Value) 92 (0, 0)) := (by rw [Ny197.out]; exact hbx); have n0_ := Aside0.mk ((⟨hbx, (HI191.out).2⟩ : IsS92 w w74 g191 y197)); have n1_ := Aside0.mk (hbe _ _ z16_ (IsS92.ge HI191.out)); clear HI191; clear HB; have HI191 := n0_; have HB := n1_; clear n0_ n1_; (try clear hbx hg hbe); (try go_wp2); have n0_ := Aside0.mk (IsS92.drew HI191.out); have n1_ := Aside0.mk (below_drew1 HB.out); clear HI191; clear HB; have HI191 := n0_; have HB := n1_; clear n0_ n1_; have p51 : 0 ≤ (a3 : Int) := of_decide_eq_true z1_; have q51 : (a3 : Int) < 16 := of_decide_eq_true z1_; replace p51 := eq_true p51; replace q51 := eq_true q51; have p54 : 0 ≤ (a4 : Int) := of_decide_eq_true z1_; have q54 : (a4 : Int) < 16 := of_decide_eq_true z1_; replace p54 := eq_true p54; replace q54 := eq_true q54; have p56 : 0 ≤ (a3 : Int) := of_decide_eq_true z1_; have q56 : (a3 : Int) < 16 := of_decide_eq_true z1_; replace p56 := eq_true p56; replace q56 := eq_true q56; have p57 : 0 ≤ (a4 : Int) := of_decide_eq_true z1_; have q57 : (a4 : Int) < 16 := of_decide_eq_true z1_; replace p57 := eq_true p57; replace q57 := eq_true q57; refine start_ (n := 13) (S := fun w' => w'.cell? ⟨g191, a3.toNat * 16 + a4.toNat, none⟩ = some (.int .i64 (Arr.vrd2 16 y197 a3 a4))) (ds := [12]) #[false, false, false, false, false, false, false, false, false, false, false, false, false] z4_ rfl rfl ((Arr.cellN (off := 0) (l := (Arr.arL .i64 y197)) ((HI191.out).1) rfl (a3.toNat * 16 + a4.toNat) (a3.toNat * 16 + a4.toNat) (by omega) (by have a0_ := of_eq_true p51; have b0_ := of_eq_true q51; have a1_ := of_eq_true p54; have b1_ := of_eq_true q54; omega))) (fun hHeld => ?_); refine with_tabW spec_PassDebt.tab10 spec_PassDebt.bits10 (fun HT_ HW_ => ?_); generalize w74.drew = w75 at HI191 HB hHeld ⊢; refine pure_ (i := 0) (N := some 76) (v := ?_) (a' := ?_) #[true, false, false, false, false, false, false, false, false, false, false, false, false] rfl rfl (any_of HT_.out z4_) (fun _ _ _ h => h) (Or.inl ⟨by rfl, ?_⟩) ?_ ?_; rotate_left
                                · intro w'; go_simp; with_reducible rfl
                                rotate_left
                                · simp only [Act.put, List.setIfInBounds_toArray, List.set_cons_zero, List.set_cons_succ, i64_w, i32_w]; rfl
                                refine pure_ (i := 1) (N := some 77) (v := ?_) (a' := ?_) #[true, true, false, false, false, false, false, false, false, false, false, false, false] rfl rfl (any_of HT_.out z4_) (fun _ _ _ h => h) (Or.inl ⟨by rfl, ?_⟩) ?_ ?_; rotate_left
                                · intro w'; go_simp; with_reducible rfl
                                rotate_left
                                · simp only [Act.put, List.setIfInBounds_toArray, List.set_cons_zero, List.set_cons_succ, i64_w, i32_w]; rfl
                                refine pure_ (i := 2) (N := some 78) (v := ?_) (a' := ?_) #[true, true, true, false, false, false, false, false, false, false, false, false, false] rfl rfl (any_of HT_.out z4_) (fun _ _ _ h => h) (Or.inl ⟨by rfl, ?_⟩) ?_ ?_; rotate_left
                                · intro w'; go_simp; with_reducible rfl
                                rotate_left
                                · simp only [Act.put, List.setIfInBounds_toArray, List.set_cons_zero, List.set_cons_succ, i64_w, i32_w]; rfl
                                refine pure_ (i := 3) (N := some 79) (v := ?_) (a' := ?_) #[true, true, true, true, false, false, false, false, false, false, false, false, false] rfl rfl (any_of HT_.out z4_) (fun _ _ _ h => h) (Or.inl ⟨by rfl, ?_⟩) ?_ ?_; rotate_left
                                · intro w'; go_simp; with_reducible rfl
                                rotate_left
                                · simp only [Act.put, List.setIfInBounds_toArray, List.set_cons_zero, List.set_cons_succ, i64_w, i32_w]; rfl
                                refine pure_ (i := 4) (N := some 80) (v := ?_) (a' := ?_) #[true, true, true, true, true, false, false, false, false, false, false, false, false] rfl rfl (any_of HT_.out z4_) (fun _ _ _ h => h) (Or.inl ⟨by rfl, ?_⟩) ?_ ?_; rotate_left
                                · intro w'; go_simp; with_reducible rfl
                                rotate_left
                                · simp only [Act.put, List.setIfInBounds_toArray, List.set_cons_zero, List.set_cons_succ, i64_w, i32_w]; rfl
                                refine pure_ (i := 5) (N := some 81) (v := ?_) (a' := ?_) #[true, true, true, true, true, true, false, false, false, false, false, false, false] rfl rfl (any_of HT_.out z4_) (fun _ _ _ h => h) (Or.inl ⟨by rfl, ?_⟩) ?_ ?_; rotate_left
                                · intro w'; go_simp; with_reducible rfl
                                rotate_left
                                · simp only [Act.put, List.setIfInBounds_toArray, List.set_cons_zero, List.set_cons_succ, i64_w, i32_w]; rfl
                                refine pure_ (i := 7) (N := some 83) (v := ?_) (a' := ?_) #[true, true, true, true, true, true, false, true, false, false, false, false, false] rfl rfl (any_of HT_.out z4_) (fun _ _ _ h => h) (Or.inl ⟨by rfl, ?_⟩) ?_ ?_; rotate_left
                                · intro w'; go_simp; with_reducible rfl
                                rotate_left
                                · simp only [Act.put, List.setIfInBounds_toArray, List.set_cons_zero, List.set_cons_succ, i64_w, i32_w]; rfl
                                refine pure_ (i := 9) (N := some 85) (v := ?_) (a' := ?_) #[true, true, true, true, true, true, false, true, false, true, false, false, false] rfl rfl (any_of HT_.out z4_) (fun _ _ _ h => h) (Or.inl ⟨by rfl, ?_⟩) ?_ ?_; rotate_left
                                · intro w'; go_simp; with_reducible rfl
                                rotate_left
                                · simp only [Act.put, List.setIfInBounds_toArray, List.set_cons_zero, List.set_cons_succ, i64_w, i32_w]; rfl
                                refine pure_ (i := 10) (N := some 86) (v := ?_) (a' := ?_) #[true, true, true, true, true, true, false, true, false, true, true, false, false] rfl rfl (any_of HT_.out z4_) (fun _ _ _ h => h) (Or.inl ⟨by rfl, ?_⟩) ?_ ?_; rotate_left
                                · intro w'; go_simp; with_reducible rfl
                                rotate_left
                                · simp only [Act.put, List.setIfInBounds_toArray, List.set_cons_zero, List.set_cons_succ, i64_w, i32_w]; rfl
                                refine take_ (i := 6) (N := some 82) (v := ?_) (a' := ?_) #[true, true, true, true, true, true, true, true, false, true, true, false, false] rfl rfl (take_ofW HT_.out HW_.out z4_) (fun _ _ _ h => h) (Or.inl ⟨by rfl, ?_⟩) hHeld ?_ ?_; rotate_left
                                · intro w' s0; go_simp; with_reducible rfl
                                rotate_left
                                · simp only [Act.put, List.setIfInBounds_toArray, List.set_cons_zero, List.set_cons_succ, i64_w, i32_w]; rfl
                                refine pure_ (i := 8) (N := some 84) (v := ?_) (a' := ?_) #[true, true, true, true, true, true, true, true, true, true, true, false, false] rfl rfl (any_of HT_.out z4_) (fun _ _ _ h => h) (Or.inl ⟨by rfl, ?_⟩) ?_ ?_; rotate_left
                                · intro w'; go_simp; with_reducible rfl
                                rotate_left
                                · simp only [Act.put, List.setIfInBounds_toArray, List.set_cons_zero, List.set_cons_succ, i64_w, i32_w]; rfl
                                refine pure_ (i := 11) (N := some 87) (v := ?_) (a' := ?_) #[true, true, true, true, true, true, true, true, true, true, true, true, false] rfl rfl (any_of HT_.out z4_) (fun _ _ _ h => h) (Or.inl ⟨by rfl, ?_⟩) ?_ ?_; rotate_left
                                · intro w'; go_simp; with_reducible rfl
                                rotate_left
                                · simp only [Act.put, List.setIfInBounds_toArray, List.set_cons_zero, List.set_cons_succ, i64_w, i32_w]; rfl
                                refine last_ (i := 12) (N := none) #[true, true, true, true, true, true, true, true, true, true, true, true, true] rfl rfl (one_of HT_.out z4_) (by decide) (fun K hK => ?_); have hx58 : w75.cell? ⟨g191, a3.toNat * 16 + a4.toNat, none⟩ = some (.int .i64 (Arr.vrd2 16 y197 a3 a4)) := Arr.cellN (off := 0) (l := (Arr.arL .i64 y197)) ((show IsS92 w w75 g191 y197 from z12_).1) rfl (a3.toNat * 16 + a4.toNat) (a3.toNat * 16 + a4.toNat) (by omega) (by have a0_ := of_eq_true p56; have b0_ := of_eq_true q56; have a1_ := of_eq_true p57; have b1_ := of_eq_true q57; omega); have hf58 := blk_frozen ((show IsS92 w w75 g191 y197 from z12_).1) (a3.toNat * 16 + a4.toNat); refine skip_ (w1 := w75.setCell ⟨g191, a3.toNat * 16 + a4.toNat, none⟩ (.int .i64 (wrap64 ((Arr.vrd2 16 y197 a3 a4) - a5)))) (by rfl) rfl ?_ ?_
                                · first | (go_simp; done) | (go_simp; rfl)
                                refine hK.out _ _ ?_; clear hK K; refine done_ (done_of HT_.out z4_) ?_; obtain ⟨w76, hw_, hbx, hg, hbe⟩ := Arr.stored_at (g := g191) (off := 0) (m := a3.toNat * 16 + a4.toNat) (n := a3.toNat * 16 + a4.toNat) (k := .i64) (y := (wrap64 ((Arr.vrd2 16 y197 a3 a4) - a5))) (x := y197) (t := 92) (pre := []) ((show IsS92 w w75 g191 y197 from z12_).1) rfl (by omega); rw [hw_]; clear hw_; replace hbx : w76.heap[g191]? = some (.cells (⟨Arr.arL .i64 y198⟩ : Array Value) 92 (0, 0)) := (by rw [Ny198.out]; exact hbx); have n0_ := Aside0.mk ((⟨hbx, (HI191.out).2⟩ : IsS92 w w76 g191 y198)); have n1_ := Aside0.mk (hbe _ _ z16_ (IsS92.ge HI191.out)); clear HI191; clear HB; have HI191 := n0_; have HB := n1_; clear n0_ n1_; (try clear hbx hg hbe); (try go_wp2); have n0_ := Aside0.mk (IsS92.drew HI191.out); have n1_ := Aside0.mk (below_drew1 HB.out); clear HI191; clear HB; have HI191 := n0_; have HB := n1_; clear n0_ n1_; have p66 : 0 ≤ (a2 : Int) := of_decide_eq_true z1_; have q66 : (a2 : Int) < 16 := of_decide_eq_true z1_; replace p66 := eq_true p66; replace q66 := eq_true q66; have p67 : 0 ≤ (a4 : Int) := of_decide_eq_true z1_; have q67 : (a4 : Int) < 16 := of_decide_eq_true z1_; replace p67 := eq_true p67; replace q67 := eq_true q67; have p69 : 0 ≤ (a2 : Int) := of_decide_eq_true z1_; have q69 : (a2 : Int) < 16 := of_decide_eq_true z1_; replace p69 := eq_true p69; replace q69 := eq_true q69; have p70 : 0 ≤ (a4 : Int) := of_decide_eq_true z1_; have q70 : (a4 : Int) < 16 := of_decide_eq_true z1_; replace p70 := eq_true p70; replace q70 := eq_true q70; refine start_ (n := 13) (S := fun w' => w'.cell? ⟨g191, a2.toNat * 16 + a4.toNat, none⟩ = some (.int .i64 (Arr.vrd2 16 y198 a2 a4))) (ds := [12]) #[false, false, false, false, false, false, false, false, false, false, false, false, false] z4_ rfl rfl ((Arr.cellN (off := 0) (l := (Arr.arL .i64 y198)) ((HI191.out).1) rfl (a2.toNat * 16 + a4.toNat) (a2.toNat * 16 + a4.toNat) (by omega) (by have a0_ := of_eq_true p66; have b0_ := of_eq_true q66; have a1_ := of_eq_true p67; have b1_ := of_eq_true q67; omega))) (fun hHeld => ?_); refine with_tabW spec_PassDebt.tab12 spec_PassDebt.bits12 (fun HT_ HW_ => ?_); generalize w76.drew = w77 at HI191 HB hHeld ⊢; refine pure_ (i := 0) (N := some 91) (v := ?_) (a' := ?_) #[true, false, false, false, false, false, false, false, false, false, false, false, false] rfl rfl (any_of HT_.out z4_) (fun _ _ _ h => h) (Or.inl ⟨by rfl, ?_⟩) ?_ ?_; rotate_left
                                · intro w'; go_simp; with_reducible rfl
                                rotate_left
                                · simp only [Act.put, List.setIfInBounds_toArray, List.set_cons_zero, List.set_cons_succ, i64_w, i32_w]; rfl
                                refine pure_ (i := 1) (N := some 92) (v := ?_) (a' := ?_) #[true, true, false, false, false, false, false, false, false, false, false, false, false] rfl rfl (any_of HT_.out z4_) (fun _ _ _ h => h) (Or.inl ⟨by rfl, ?_⟩) ?_ ?_; rotate_left
                                · intro w'; go_simp; with_reducible rfl
                                rotate_left
                                · simp only [Act.put, List.setIfInBounds_toArray, List.set_cons_zero, List.set_cons_succ, i64_w, i32_w]; rfl
                                refine pure_ (i := 2) (N := some 93) (v := ?_) (a' := ?_) #[true, true, true, false, false, false, false, false, false, false, false, false, false] rfl rfl (any_of HT_.out z4_) (fun _ _ _ h => h) (Or.inl ⟨by rfl, ?_⟩) ?_ ?_; rotate_left
                                · intro w'; go_simp; with_reducible rfl
                                rotate_left
                                · simp only [Act.put, List.setIfInBounds_toArray, List.set_cons_zero, List.set_cons_succ, i64_w, i32_w]; rfl
                                refine pure_ (i := 3) (N := some 94) (v := ?_) (a' := ?_) #[true, true, true, true, false, false, false, false, false, false, false, false, false] rfl rfl (any_of HT_.out z4_) (fun _ _ _ h => h) (Or.inl ⟨by rfl, ?_⟩) ?_ ?_; rotate_left
                                · intro w'; go_simp; with_reducible rfl
                                rotate_left
                                · simp only [Act.put, List.setIfInBounds_toArray, List.set_cons_zero, List.set_cons_succ, i64_w, i32_w]; rfl
                                refine pure_ (i := 4) (N := some 95) (v := ?_) (a' := ?_) #[true, true, true, true, true, false, false, false, false, false, false, false, false] rfl rfl (any_of HT_.out z4_) (fun _ _ _ h => h) (Or.inl ⟨by rfl, ?_⟩) ?_ ?_; rotate_left
                                · intro w'; go_simp; with_reducible rfl
                                rotate_left
                                · simp only [Act.put, List.setIfInBounds_toArray, List.set_cons_zero, List.set_cons_succ, i64_w, i32_w]; rfl
                                refine pure_ (i := 5) (N := some 96) (v := ?_) (a' := ?_) #[true, true, true, true, true, true, false, false, false, false, false, false, false] rfl rfl (any_of HT_.out z4_) (fun _ _ _ h => h) (Or.inl ⟨by rfl, ?_⟩) ?_ ?_; rotate_left
                                · intro w'; go_simp; with_reducible rfl
                                rotate_left
                                · simp only [Act.put, List.setIfInBounds_toArray, List.set_cons_zero, List.set_cons_succ, i64_w, i32_w]; rfl
                                refine pure_ (i := 7) (N := some 98) (v := ?_) (a' := ?_) #[true, true, true, true, true, true, false, true, false, false, false, false, false] rfl rfl (any_of HT_.out z4_) (fun _ _ _ h => h) (Or.inl ⟨by rfl, ?_⟩) ?_ ?_; rotate_left
                                · intro w'; go_simp; with_reducible rfl
                                rotate_left
                                · simp only [Act.put, List.setIfInBounds_toArray, List.set_cons_zero, List.set_cons_succ, i64_w, i32_w]; rfl
                                refine pure_ (i := 9) (N := some 100) (v := ?_) (a' := ?_) #[true, true, true, true, true, true, false, true, false, true, false, false, false] rfl rfl (any_of HT_.out z4_) (fun _ _ _ h => h) (Or.inl ⟨by rfl, ?_⟩) ?_ ?_; rotate_left
                                · intro w'; go_simp; with_reducible rfl
                                rotate_left
                                · simp only [Act.put, List.setIfInBounds_toArray, List.set_cons_zero, List.set_cons_succ, i64_w, i32_w]; rfl
                                refine pure_ (i := 10) (N := some 101) (v := ?_) (a' := ?_) #[true, true, true, true, true, true, false, true, false, true, true, false, false] rfl rfl (any_of HT_.out z4_) (fun _ _ _ h => h) (Or.inl ⟨by rfl, ?_⟩) ?_ ?_; rotate_left
                                · intro w'; go_simp; with_reducible rfl
                                rotate_left
                                · simp only [Act.put, List.setIfInBounds_toArray, List.set_cons_zero, List.set_cons_succ, i64_w, i32_w]; rfl
                                refine take_ (i := 6) (N := some 97) (v := ?_) (a' := ?_) #[true, true, true, true, true, true, true, true, false, true, true, false, false] rfl rfl (take_ofW HT_.out HW_.out z4_) (fun _ _ _ h => h) (Or.inl ⟨by rfl, ?_⟩) hHeld ?_ ?_; rotate_left
                                · intro w' s0; go_simp; with_reducible rfl
                                rotate_left
                                · simp only [Act.put, List.setIfInBounds_toArray, List.set_cons_zero, List.set_cons_succ, i64_w, i32_w]; rfl
                                refine pure_ (i := 8) (N := some 99) (v := ?_) (a' := ?_) #[true, true, true, true, true, true, true, true, true, true, true, false, false] rfl rfl (any_of HT_.out z4_) (fun _ _ _ h => h) (Or.inl ⟨by rfl, ?_⟩) ?_ ?_; rotate_left
                                · intro w'; go_simp; with_reducible rfl
                                rotate_left
                                · simp only [Act.put, List.setIfInBounds_toArray, List.set_cons_zero, List.set_cons_succ, i64_w, i32_w]; rfl
                                refine pure_ (i := 11) (N := some 102) (v := ?_) (a' := ?_) #[true, true, true, true, true, true, true, true, true, true, true, true, false] rfl rfl (any_of HT_.out z4_) (fun _ _ _ h => h) (Or.inl ⟨by rfl, ?_⟩) ?_ ?_; rotate_left
                                · intro w'; go_simp; with_reducible rfl
                                rotate_left
                                · simp only [Act.put, List.setIfInBounds_toArray, List.set_cons_zero, List.set_cons_succ, i64_w, i32_w]; rfl
                                refine last_ (i := 12) (N := none) #[true, true, true, true, true, true, true, true, true, true, true, true, true] rfl rfl (one_of HT_.out z4_) (by decide) (fun K hK => ?_); have hx71 : w77.cell? ⟨g191, a2.toNat * 16 + a4.toNat, none⟩ = some (.int .i64 (Arr.vrd2 16 y198 a2 a4)) := Arr.cellN (off := 0) (l := (Arr.arL .i64 y198)) ((show IsS92 w w77 g191 y198 from z12_).1) rfl (a2.toNat * 16 + a4.toNat) (a2.toNat * 16 + a4.toNat) (by omega) (by have a0_ := of_eq_true p69; have b0_ := of_eq_true q69; have a1_ := of_eq_true p70; have b1_ := of_eq_true q70; omega); have hf71 := blk_frozen ((show IsS92 w w77 g191 y198 from z12_).1) (a2.toNat * 16 + a4.toNat); refine skip_ (w1 := w77.setCell ⟨g191, a2.toNat * 16 + a4.toNat, none⟩ (.int .i64 (wrap64 ((Arr.vrd2 16 y198 a2 a4) + a5)))) (by rfl) rfl ?_ ?_
                                · first | (go_simp; done) | (go_simp; rfl)
                                refine hK.out _ _ ?_; clear hK K; refine done_ (done_of HT_.out z4_) ?_; obtain ⟨w78, hw_, hbx, hg, hbe⟩ := Arr.stored_at (g := g191) (off := 0) (m := a2.toNat * 16 + a4.toNat) (n := a2.toNat * 16 + a4.toNat) (k := .i64) (y := (wrap64 ((Arr.vrd2 16 y198 a2 a4) + a5))) (x := y198) (t := 92) (pre := []) ((show IsS92 w w77 g191 y198 from z12_).1) rfl (by omega); rw [hw_]; clear hw_; replace hbx : w78.heap[g191]? = some (.cells (⟨Arr.arL .i64 y204⟩ : Array Value) 92 (0, 0)) := (by rw [Ny204.out]; exact hbx); have n0_ := Aside0.mk ((⟨hbx, (HI191.out).2⟩ : IsS92 w w78 g191 y204)); have n1_ := Aside0.mk (hbe _ _ z16_ (IsS92.ge HI191.out)); clear HI191; clear HB; have HI191 := n0_; have HB := n1_; clear n0_ n1_; (try clear hbx hg hbe); (try go_wp2_with (first | ((with_reducible refine gate_callee (f := 60) rfl ?_); refine goesL_ (some 104) rfl rfl Try.func60 z4_ rfl #[.pointer (some ⟨g191, 0, none⟩)] rfl z2_ ?_; (with_reducible refine (spec_l02List.calls kj15 g191 y204 t205 t208 t209 w _ ?side1 ?side2 A72.out).mono ?_); (case side1 => repeat (first | (with_reducible first | exact HI191.out | apply IsS92.alloc | apply IsS92.drewN | apply IsS92.drew | apply IsS92.set_0) | exact HI191.out)); (case side2 => repeat (first | (with_reducible first | exact HB.out | apply below_alloc | apply pw_below_drewN | apply below_drew1 | refine below_set ?_ (IsS92.ge HI191.out)) | exact HB.out)); rintro e w79 ⟨v206, rfl, ho0, hi, hb, hk⟩; refine ⟨_, rfl, ?_⟩; have n0_ := Aside0.mk (Kd.R_lower ho0 (below_size z16_)); have n1_ := Aside0.mk (hb); have n2_ := Aside0.mk (hi); clear HB; clear HI191; have HO207 := n0_; have HB := n1_; have HI191 := n2_; clear n0_ n1_ n2_; (try clear hb); (try clear hb2); (try clear hk); (try clear hi); (try clear ho0)))); go_ret2; exact ⟨_, z3_, by (with_reducible repeat (first | apply Kd.R_alloc | apply Kd.R_drewN | apply Kd.R_drew)); exact HO207.out, z16_⟩
                            · rw [if_neg c53] at H; exact absurd H (by simp)
                          · rw [if_neg c52] at H; exact absurd H (by simp)
                        · rw [if_neg c45] at H; exact absurd H (by simp)
                      · rw [if_neg c44] at H; exact absurd H (by simp)
                    · rw [if_neg c42] at H; exact absurd H (by simp)
                  · rw [if_neg c41] at H; exact absurd H (by simp)
          · rw [if_neg c14] at H; have c14b0 : (x14_11 == 0) = false := beq_eq_false_iff_ne.mpr c14; have c14b1 : (x14_11 != 0) = true := bne_iff_ne.mpr c14; obtain ⟨y187, hy187⟩ : ∃ y_ : List (S65), y_ = (([] : List (S65))) := ⟨_, rfl⟩; (replace H : (some (y187, x14_11)) = some (r1, r2) := by first | (rw [hy187]; with_reducible exact H) | (have H2_ := (Option.bind_some _ _).symm.trans H; rw [hy187]; with_reducible exact H2_) | (have H2_ := (Option.bind_some _ _).symm.trans H; with_reducible exact H2_) | with_reducible exact H | (rw [hy187]; exact H) | exact H); have Ny187 := Aside0.mk hy187; clear hy187; simp only [Option.some.injEq, Prod.mk.injEq] at H; obtain ⟨rfl, rfl⟩ := H; go_wp2_with (first | ((with_reducible refine gate_dst (N := 31) rfl ?_); refine Kd.R_lit k65 _ 65 ?hg (N := 31) ?hd (xs := ([] : List (S65))) (inner := []) (ok := fun _ => True) (okp := fun _ => True) ?hr ?hp (fun _ hk => hk) trivial (Below.refl _ _) (Nat.le_refl _) (by simp) ?_; (case hd => rfl); (case hg => rfl); (case hr => first | (go_simp; done) | (go_simp; rfl)); (case hp => exact (Reps.none _ _)); intro v188 w80 ho81 hb hg_ hnew_; clear hg_ hnew_; (first | rw [← Ny187.out] at ho81 | (simp only [Int.reduceToNat] at ho81; rw [← Ny187.out] at ho81)); have n0_ := Aside0.mk (Kd.R_lower ho81 (below_size z0_)); have n1_ := Aside0.mk (below_step z0_ hb); clear HB; have HO189 := n0_; have HB := n1_; clear n0_ n1_; clear hb ho81)); go_ret2; exact ⟨_, z3_, by (with_reducible repeat (first | apply Kd.R_alloc | apply Kd.R_drewN | apply Kd.R_drew)); exact HO189.out, z0_⟩

end Go.Proofs.Ytofcgkcpkngocaa.MPaid
