-- by a program of this session, for this claim
import Derived.Test.YtofcgkcpkngocaaMCancelCirclex0
import Derived.Test.YtofcgkcpkngocaaMCancelCirclex2
import Derived.Test.YtofcgkcpkngocaaMCancelCirclex5
namespace Go.Proofs.Ytofcgkcpkngocaa.MCancelCircle
open Go.RowKit Go.Proofs.YtofcgkcpkngocaaW.PrintWords Go.Proofs.YtofcgkcpkngocaaW.PrintLast Go.Proofs.YtofcgkcpkngocaaW.PrintMore
attribute [local go_sem] max2_int min2_int max_two min_two max_three min_three max_four min_four   -- for this text's walks alone
set_option linter.unusedVariables false
set_option linter.unusedSimpArgs false

/-! ### spec_l02Least: function 68 -/
def spec_l02Least.l0 : Nat → List Int → Int → Int → Int → Vector Int 256 → Option (Int × Vector Int 256)
  | 0, _, _, _, _, _ => none
  | k + 1, x1, x5, x6, x7, x1000 => if (wrap64 (x7 + 1)) < x5 then (if 0 ≤ x7 then (if x7 < (x1.length : Int) then (if 0 ≤ (wrap64 (x7 + 1)) then (if (wrap64 (x7 + 1)) < (x1.length : Int) then (if 0 ≤ (rd x1 x7) then (if (rd x1 x7) < 16 then (if 0 ≤ (rd x1 (wrap64 (x7 + 1))) then (if (rd x1 (wrap64 (x7 + 1))) < 16 then ((spec_l00Min.f x6 (Arr.vrd2 16 x1000 (rd x1 x7) (rd x1 (wrap64 (x7 + 1))))).bind fun t160 => (spec_l02Least.l0 k x1 x5 t160 (wrap64 (x7 + 1)) x1000)) else (none)) else (none)) else (none)) else (none)) else (none)) else (none)) else (none)) else (none)) else (some (x6, x1000))
def spec_l02Least.f (k : Nat) (s0_0 : Vector Int 256) (l1 : List Int) : Option (Int × Vector Int 256) := if 0 ≤ (wrap64 ((l1.length : Int) - 1)) then (if (wrap64 ((l1.length : Int) - 1)) < (l1.length : Int) then (if 0 < (l1.length : Int) then (if 0 ≤ (rd l1 (wrap64 ((l1.length : Int) - 1))) then (if (rd l1 (wrap64 ((l1.length : Int) - 1))) < 16 then (if 0 ≤ (rd l1 0) then (if (rd l1 0) < 16 then (spec_l02Least.l0 k l1 (l1.length : Int) (Arr.vrd2 16 s0_0 (rd l1 (wrap64 ((l1.length : Int) - 1))) (rd l1 0)) 0 s0_0) else (none)) else (none)) else (none)) else (none)) else (none)) else (none)) else (none)
theorem spec_l02Least.mono_l : ∀ k, (∀ y0 y1 y2 y3 y4, LeO (spec_l02Least.l0 k y0 y1 y2 y3 y4) (spec_l02Least.l0 (k + 1) y0 y1 y2 y3 y4))
  | 0 => fun _ _ _ _ _ r h => by simp [spec_l02Least.l0] at h
  | k + 1 => by
    have ih0 := spec_l02Least.mono_l k
    · intro y0 y1 y2 y3 y4
      unfold spec_l02Least.l0
      repeat' first
      | (with_reducible exact ih0 _ _ _ _ _)
      | (with_reducible exact LeO.refl _)
      | (with_reducible exact LeO.none _)
      | (with_reducible refine LeO.ite ?_ ?_)
      | (with_reducible refine LeO.bind ?_ (fun _ => ?_))
      | exact ih0 _ _ _ _ _
      | exact LeO.none _
      | refine LeO.ite ?_ ?_
      | refine LeO.bind ?_ (fun _ => ?_)
theorem spec_l02Least.mono : ∀ a0 a1 k, LeO (spec_l02Least.f k a0 a1) (spec_l02Least.f (k + 1) a0 a1) := by
  intro a0 a1 k
  have ih0 := spec_l02Least.mono_l k
  unfold spec_l02Least.f
  repeat' first
      | (with_reducible exact ih0 _ _ _ _ _)
      | (with_reducible exact LeO.refl _)
      | (with_reducible exact LeO.none _)
      | (with_reducible refine LeO.ite ?_ ?_)
      | (with_reducible refine LeO.bind ?_ (fun _ => ?_))
      | exact ih0 _ _ _ _ _
      | exact LeO.none _
      | refine LeO.ite ?_ ?_
      | refine LeO.bind ?_ (fun _ => ?_)
def spec_l02Least.T2 : Bool × List (List Nat × List Nat) := (true, [([], []), ([], []), ([], []), ([2], [2]), ([1, 3], [1, 3]), ([4], [4]), ([], []), ([6], [6]), ([7], [7]), ([0], [0]), ([9, 5], [5, 9]), ([10, 8], [8, 10]), ([11], [11]), ([12, 0, 1, 2, 3, 4, 5, 6, 7, 8, 9, 10, 11, 12], [12])])
def spec_l02Least.B2 : List Nat := [0, 0, 0, 4, 14, 30, 0, 64, 192, 1, 575, 2047, 4095, 8191]
theorem spec_l02Least.tab2 : rtab .any (opsOf Try.f68 2) = spec_l02Least.T2 := by kernel_rfl
theorem spec_l02Least.bits2 : waitsOk spec_l02Least.T2.2 spec_l02Least.B2 = true := by kernel_rfl
def spec_l02Least.T6 : Bool × List (List Nat × List Nat) := (true, [([], []), ([], []), ([], []), ([], []), ([2, 3], [2, 3]), ([4], [4]), ([], []), ([], []), ([7], [7]), ([6, 8], [6, 8]), ([9], [9]), ([1], [1]), ([11, 5], [5, 11]), ([12, 10], [10, 12]), ([13], [13]), ([0, 14], [0, 14]), ([15, 15, 0, 1, 2, 3, 4, 5, 6, 7, 8, 9, 10, 11, 12, 13, 14, 15], [0, 15])])
def spec_l02Least.B6 : List Nat := [0, 0, 0, 0, 12, 28, 0, 0, 128, 448, 960, 2, 2110, 8190, 16382, 32767, 65535]
theorem spec_l02Least.tab6 : rtab .any (opsOf Try.f68 6) = spec_l02Least.T6 := by kernel_rfl
theorem spec_l02Least.bits6 : waitsOk spec_l02Least.T6.2 spec_l02Least.B6 = true := by kernel_rfl
set_option maxHeartbeats 8000000 in
set_option maxRecDepth 100000 in
theorem spec_l02Least.calls (k : Nat) (g : Nat) (s0_0 : Vector Int 256) (A1 : Option Addr) (c1 : Nat) (l1 : List Int) (r1 : Int) (r2 : Vector Int 256) (w0 w : World) (hI : IsS92 w0 w g s0_0) (hB : Below w0.heap.size w0 w) (hr1 : Kd.C (Kd.int .i64) w A1 l1.length l1) (hc1 : l1.length ≤ c1) (hf1 : ∀ ad, A1 = some ad → 0 < l1.length → ad.block ≠ g) (h : spec_l02Least.f k s0_0 l1 = some (r1, r2)) :
    Calls Try.prog 68 #[.pointer (some ⟨g, 0, none⟩), .slice A1 l1.length c1] w fun e w' => e = .returned (.int .i64 r1) ∧ IsS92 w0 w' g r2 ∧ Below w0.heap.size w0 w' ∧ KeepBut w w' g none := by
  have HR1 := Aside0.mk hr1
  have HC1 := Aside0.mk hc1
  clear hr1 hc1
  have HI0 := Aside0.mk hI
  have HK := Aside0.mk (KeepBut.refl w g none)
  have HL := Aside0.mk hB.size
  clear hI
  have HW0 := Aside0.mk hB.size
  have HB := Aside0.mk hB
  clear hB
  have H : (if 0 ≤ (wrap64 ((l1.length : Int) - 1)) then (if (wrap64 ((l1.length : Int) - 1)) < (l1.length : Int) then (if 0 < (l1.length : Int) then (if 0 ≤ (rd l1 (wrap64 ((l1.length : Int) - 1))) then (if (rd l1 (wrap64 ((l1.length : Int) - 1))) < 16 then (if 0 ≤ (rd l1 0) then (if (rd l1 0) < 16 then (spec_l02Least.l0 k l1 (l1.length : Int) (Arr.vrd2 16 s0_0 (rd l1 (wrap64 ((l1.length : Int) - 1))) (rd l1 0)) 0 s0_0) else (none)) else (none)) else (none)) else (none)) else (none)) else (none)) else (none)) = some (r1, r2) := h
  clear h
  obtain ⟨ji3, hji3⟩ : ∃ j_ : Int, (wrap64 ((l1.length : Int) - 1)) = j_ := ⟨_, rfl⟩
  replace H : (if 0 ≤ (ji3) then (if (ji3) < (l1.length : Int) then (if 0 < (l1.length : Int) then (if 0 ≤ (rd l1 (ji3)) then (if (rd l1 (ji3)) < 16 then (if 0 ≤ (rd l1 0) then (if (rd l1 0) < 16 then (spec_l02Least.l0 k l1 (l1.length : Int) (Arr.vrd2 16 s0_0 (rd l1 (ji3)) (rd l1 0)) 0 s0_0) else (none)) else (none)) else (none)) else (none)) else (none)) else (none)) else (none)) = some (r1, r2) := by first | (rw [hji3] at H; exact H) | (simp only [hji3] at H ⊢; exact H)
  have hji3w : (IntKind.i64.wrap ((l1.length : Int) - 1)) = ji3 := (i64_w _).trans hji3
  by_cases c4 : 0 ≤ (ji3)
  · rw [if_pos c4] at H
    have c4b0 : decide (0 ≤ (ji3)) = true := decide_eq_true c4
    clear c4
    by_cases c5 : (ji3) < (l1.length : Int)
    · rw [if_pos c5] at H
      have c5b0 : decide ((ji3) < (l1.length : Int)) = true := decide_eq_true c5
      clear c5
      by_cases c6 : 0 < (l1.length : Int)
      · rw [if_pos c6] at H
        have c6b0 : decide (0 < (l1.length : Int)) = true := decide_eq_true c6
        have c6b1 : decide (0 < l1.length) = true := decide_eq_true (by omega)
        clear c6
        by_cases c7 : 0 ≤ (rd l1 (ji3))
        · rw [if_pos c7] at H
          have c7b0 : decide (0 ≤ (rd l1 (ji3))) = true := decide_eq_true c7
          clear c7
          by_cases c8 : (rd l1 (ji3)) < 16
          · rw [if_pos c8] at H
            have c8b0 : decide ((rd l1 (ji3)) < 16) = true := decide_eq_true c8
            clear c8
            by_cases c10 : 0 ≤ (rd l1 0)
            · rw [if_pos c10] at H
              have c10b0 : decide (0 ≤ (rd l1 0)) = true := decide_eq_true c10
              clear c10
              by_cases c11 : (rd l1 0) < 16
              · rw [if_pos c11] at H
                have c11b0 : decide ((rd l1 0) < 16) = true := decide_eq_true c11
                clear c11
                have H' := Aside0.mk H
                clear H
                go_enter Try.func68, Try.ntmps68
                try go_wp2
                have n0_ := Aside0.mk (IsS92.drew HI0.out)
                have n1_ := Aside0.mk (keep_drew HK.out)
                have n2_ := Aside0.mk (below_drew1 HB.out)
                clear HI0
                clear HK
                clear HB
                have HI0 := n0_
                have HK := n1_
                have HB := n2_
                clear n0_ n1_ n2_
                have p156 : 0 ≤ ((ji3) : Int) := of_decide_eq_true (by first | (with_reducible assumption) | assumption)
                have q156 : (ji3) < (l1.length : Int) := of_decide_eq_true (by first | (with_reducible assumption) | assumption)
                obtain ⟨ad156, e156, hx156_0⟩ := Kd.at_int HR1.out (ji3) p156 q156
                have hw156_0 := hx156_0
                cases e156
                have hne156_0 := (show ((ad156.add ((ji3)).toNat) : Addr).block ≠ g from by first | (rw [add_block]; exact hf1 ad156 rfl (by omega)) | (show (Addr.add _ _).block ≠ _; rw [add_block]; exact hf1 ad156 rfl (by omega)) | exact hf1 ad156 rfl (by omega))
                replace hx156_0 := keep_cell HK.out hx156_0 (by first | (rw [add_block]; exact hf1 _ rfl (by omega)) | exact hf1 _ rfl (by omega) | exact hf1 ad156 rfl (by omega))
                replace p156 := eq_true p156
                replace q156 := eq_true q156
                have p157 : 0 ≤ (0 : Int) := (by omega)
                have q157 : 0 < (l1.length : Int) := of_decide_eq_true (by first | (with_reducible assumption) | assumption)
                obtain ⟨ad157, e157, hx157_0⟩ := Kd.at_int HR1.out 0 p157 q157
                have hw157_0 := hx157_0
                (try rw [show ((0 : Int)).toNat = 0 from rfl] at hw157_0)
                (try rw [show 0 * 1 = 0 from rfl] at hw157_0)
                (try rw [Addr.add_zero'] at hw157_0)
                obtain rfl : ad156 = ad157 := (by injection e157)
                have hne157_0 := (show (ad156 : Addr).block ≠ g from by first | (rw [add_block]; exact hf1 ad156 rfl (by omega)) | (show (Addr.add _ _).block ≠ _; rw [add_block]; exact hf1 ad156 rfl (by omega)) | exact hf1 ad156 rfl (by omega))
                have qi157 : (0 < l1.length) = True := eq_true (by omega)
                (try rw [show ((0 : Int)).toNat = 0 from rfl] at hx157_0)
                (try rw [Addr.add_zero'] at hx157_0)
                replace hx157_0 := keep_cell HK.out hx157_0 (by first | (rw [add_block]; exact hf1 _ rfl (by omega)) | exact hf1 _ rfl (by omega) | exact hf1 ad156 rfl (by omega))
                replace p157 := eq_true p157
                replace q157 := eq_true q157
                have p9 : 0 ≤ ((rd l1 (ji3)) : Int) := of_decide_eq_true (by first | (with_reducible assumption) | assumption)
                have q9 : ((rd l1 (ji3)) : Int) < 16 := of_decide_eq_true (by first | (with_reducible assumption) | assumption)
                replace p9 := eq_true p9
                replace q9 := eq_true q9
                have p12 : 0 ≤ ((rd l1 0) : Int) := of_decide_eq_true (by first | (with_reducible assumption) | assumption)
                have q12 : ((rd l1 0) : Int) < 16 := of_decide_eq_true (by first | (with_reducible assumption) | assumption)
                replace p12 := eq_true p12
                replace q12 := eq_true q12
                refine start_ (n := 14) (S := fun w' => w'.cell? (ad156.add ((ji3)).toNat) = some (.int .i64 (rd l1 (ji3))) ∧ w'.cell? ad156 = some (.int .i64 (rd l1 0)) ∧ w'.cell? ⟨g, (rd l1 (ji3)).toNat * 16 + (rd l1 0).toNat, none⟩ = some (.int .i64 (Arr.vrd2 16 s0_0 (rd l1 (ji3)) (rd l1 0)))) (ds := []) #[false, false, false, false, false, false, false, false, false, false, false, false, false, false] (by kernel_rfl) rfl rfl ⟨(keep_cell HK.out hw156_0 hne156_0), (keep_cell HK.out hw157_0 hne157_0), (Arr.cellN (off := 0) (l := (Arr.arL .i64 s0_0)) ((HI0.out).1) rfl ((rd l1 (ji3)).toNat * 16 + (rd l1 0).toNat) ((rd l1 (ji3)).toNat * 16 + (rd l1 0).toNat) (by omega) (by have a0_ := of_eq_true p9; have b0_ := of_eq_true q9; have a1_ := of_eq_true p12; have b1_ := of_eq_true q12; omega))⟩ (fun hHeld => ?_); refine with_tabW spec_l02Least.tab2 spec_l02Least.bits2 (fun HT_ HW_ => ?_)
                generalize w.drew = w14 at HI0 HK HB hx156_0 hx157_0 hHeld ⊢
                refine pure_ (i := 0) (N := some 10) (v := ?_) (a' := ?_) #[true, false, false, false, false, false, false, false, false, false, false, false, false, false] rfl rfl (any_of HT_.out (by kernel_rfl)) (fun _ _ _ h => h) (Or.inl ⟨by rfl, ?_⟩) ?_ ?_
                rotate_left
                · intro w'
                  go_simp
                  with_reducible rfl
                rotate_left
                · simp only [Act.put, List.setIfInBounds_toArray, List.set_cons_zero, List.set_cons_succ, i64_w, i32_w]
                  rfl
                refine pure_ (i := 1) (N := some 11) (v := ?_) (a' := ?_) #[true, true, false, false, false, false, false, false, false, false, false, false, false, false] rfl rfl (any_of HT_.out (by kernel_rfl)) (fun _ _ _ h => h) (Or.inl ⟨by rfl, ?_⟩) ?_ ?_
                rotate_left
                · intro w'
                  go_simp
                  with_reducible rfl
                rotate_left
                · simp only [Act.put, List.setIfInBounds_toArray, List.set_cons_zero, List.set_cons_succ, i64_w, i32_w]
                  rfl
                refine pure_ (i := 2) (N := some 12) (v := ?_) (a' := ?_) #[true, true, true, false, false, false, false, false, false, false, false, false, false, false] rfl rfl (any_of HT_.out (by kernel_rfl)) (fun _ _ _ h => h) (Or.inl ⟨by rfl, ?_⟩) ?_ ?_
                rotate_left
                · intro w'
                  go_simp
                  with_reducible rfl
                rotate_left
                · simp only [Act.put, List.setIfInBounds_toArray, List.set_cons_zero, List.set_cons_succ, i64_w, i32_w]
                  rfl
                refine pure_ (i := 3) (N := some 13) (v := ?_) (a' := ?_) #[true, true, true, true, false, false, false, false, false, false, false, false, false, false] rfl rfl (any_of HT_.out (by kernel_rfl)) (fun _ _ _ h => h) (Or.inl ⟨by rfl, ?_⟩) ?_ ?_
                rotate_left
                · intro w'
                  go_simp
                  with_reducible rfl
                rotate_left
                · simp only [Act.put, List.setIfInBounds_toArray, List.set_cons_zero, List.set_cons_succ, i64_w, i32_w]
                  rfl
                refine pure_ (i := 4) (N := some 14) (v := ?_) (a' := ?_) #[true, true, true, true, true, false, false, false, false, false, false, false, false, false] rfl rfl (any_of HT_.out (by kernel_rfl)) (fun _ _ _ h => h) (Or.inl ⟨by rfl, ?_⟩) ?_ ?_
                rotate_left
                · intro w'
                  go_simp
                  with_reducible rfl
                rotate_left
                · simp only [Act.put, List.setIfInBounds_toArray, List.set_cons_zero, List.set_cons_succ, i64_w, i32_w]
                  rfl
                refine pure_ (i := 6) (N := some 16) (v := ?_) (a' := ?_) #[true, true, true, true, true, false, true, false, false, false, false, false, false, false] rfl rfl (any_of HT_.out (by kernel_rfl)) (fun _ _ _ h => h) (Or.inl ⟨by rfl, ?_⟩) ?_ ?_
                rotate_left
                · intro w'
                  go_simp
                  with_reducible rfl
                rotate_left
                · simp only [Act.put, List.setIfInBounds_toArray, List.set_cons_zero, List.set_cons_succ, i64_w, i32_w]
                  rfl
                refine pure_ (i := 7) (N := some 17) (v := ?_) (a' := ?_) #[true, true, true, true, true, false, true, true, false, false, false, false, false, false] rfl rfl (any_of HT_.out (by kernel_rfl)) (fun _ _ _ h => h) (Or.inl ⟨by rfl, ?_⟩) ?_ ?_
                rotate_left
                · intro w'
                  go_simp
                  with_reducible rfl
                rotate_left
                · simp only [Act.put, List.setIfInBounds_toArray, List.set_cons_zero, List.set_cons_succ, i64_w, i32_w]
                  rfl
                refine pure_ (i := 9) (N := some 19) (v := ?_) (a' := ?_) #[true, true, true, true, true, false, true, true, false, true, false, false, false, false] rfl rfl (any_of HT_.out (by kernel_rfl)) (fun _ _ _ h => h) (Or.inl ⟨by rfl, ?_⟩) ?_ ?_
                rotate_left
                · intro w'
                  go_simp
                  with_reducible rfl
                rotate_left
                · simp only [Act.put, List.setIfInBounds_toArray, List.set_cons_zero, List.set_cons_succ, i64_w, i32_w]
                  rfl
                refine take_ (i := 5) (N := some 15) (v := ?_) (a' := ?_) #[true, true, true, true, true, true, true, true, false, true, false, false, false, false] rfl rfl (take_ofW HT_.out HW_.out (by kernel_rfl)) (fun _ _ _ h => h) (Or.inl ⟨by rfl, ?_⟩) hHeld ?_ ?_
                rotate_left
                · rintro w' ⟨s0, s1, s2⟩
                  go_simp
                  with_reducible rfl
                rotate_left
                · simp only [Act.put, List.setIfInBounds_toArray, List.set_cons_zero, List.set_cons_succ, i64_w, i32_w]
                  rfl
                refine pure_ (i := 10) (N := some 20) (v := ?_) (a' := ?_) #[true, true, true, true, true, true, true, true, false, true, true, false, false, false] rfl rfl (any_of HT_.out (by kernel_rfl)) (fun _ _ _ h => h) (Or.inl ⟨by rfl, ?_⟩) ?_ ?_
                rotate_left
                · intro w'
                  go_simp
                  with_reducible rfl
                rotate_left
                · simp only [Act.put, List.setIfInBounds_toArray, List.set_cons_zero, List.set_cons_succ, i64_w, i32_w]
                  rfl
                refine take_ (i := 8) (N := some 18) (v := ?_) (a' := ?_) #[true, true, true, true, true, true, true, true, true, true, true, false, false, false] rfl rfl (take_ofW HT_.out HW_.out (by kernel_rfl)) (fun _ _ _ h => h) (Or.inl ⟨by rfl, ?_⟩) hHeld ?_ ?_
                rotate_left
                · rintro w' ⟨s0, s1, s2⟩
                  go_simp
                  with_reducible rfl
                rotate_left
                · simp only [Act.put, List.setIfInBounds_toArray, List.set_cons_zero, List.set_cons_succ, i64_w, i32_w]
                  rfl
                refine pure_ (i := 11) (N := some 21) (v := ?_) (a' := ?_) #[true, true, true, true, true, true, true, true, true, true, true, true, false, false] rfl rfl (any_of HT_.out (by kernel_rfl)) (fun _ _ _ h => h) (Or.inl ⟨by rfl, ?_⟩) ?_ ?_
                rotate_left
                · intro w'
                  go_simp
                  with_reducible rfl
                rotate_left
                · simp only [Act.put, List.setIfInBounds_toArray, List.set_cons_zero, List.set_cons_succ, i64_w, i32_w]
                  rfl
                refine take_ (i := 12) (N := some 22) (v := ?_) (a' := ?_) #[true, true, true, true, true, true, true, true, true, true, true, true, true, false] rfl rfl (take_ofW HT_.out HW_.out (by kernel_rfl)) (fun _ _ _ h => h) (Or.inl ⟨by rfl, ?_⟩) hHeld ?_ ?_
                rotate_left
                · rintro w' ⟨s0, s1, s2⟩
                  go_simp
                  with_reducible rfl
                rotate_left
                · simp only [Act.put, List.setIfInBounds_toArray, List.set_cons_zero, List.set_cons_succ, i64_w, i32_w]
                  rfl
                refine pure_ (i := 13) (N := some 6) (v := ?_) (a' := ?_) #[true, true, true, true, true, true, true, true, true, true, true, true, true, true] rfl rfl (any_of HT_.out (by kernel_rfl)) (fun _ _ _ h => h) (Or.inl ⟨by rfl, ?_⟩) ?_ ?_
                rotate_left
                · intro w'
                  go_simp
                  with_reducible rfl
                rotate_left
                · simp only [Act.put, List.setIfInBounds_toArray, List.set_cons_zero, List.set_cons_succ, i64_w, i32_w]
                  rfl
                refine done_ (done_of HT_.out (by kernel_rfl)) ?_
                try go_wp2
                go_loopg [6, 7] k (fun kq v6 v7 w' => ∃ (x6_1 : Int) (x7_1 : Int), v6 = .int .i64 x6_1 ∧ v7 = .int .i64 x7_1 ∧ Aside0 (spec_l02Least.l0 kq l1 (l1.length : Int) x6_1 x7_1 s0_0 = some (r1, r2)) ∧ Aside0 (kq ≤ k) ∧ Aside0 (IsS92 w0 w' g s0_0) ∧ Aside0 (KeepBut w w' g none) ∧ Aside0 (Below w0.heap.size w0 w'))
                case atStart => exact ⟨(Arr.vrd2 16 s0_0 (rd l1 (ji3)) (rd l1 0)), (0), (by first | rfl | (simp; done) | (simp only [← hji3] <;> (first | rfl | simp)) | (simp [*]; done)), (by first | rfl | (simp; done) | (simp [*]; done)), H', ⟨Nat.le_refl _⟩, ⟨by repeat (first | (with_reducible first | exact HI0.out | apply IsS92.alloc | apply IsS92.drewN | apply IsS92.drew | apply IsS92.set_0) | exact HI0.out)⟩, ⟨by repeat (first | (with_reducible first | exact HK.out | apply KeepBut.set_ | apply keep_drewN | apply keep_drew | apply keep_alloc) | exact HK.out)⟩, ⟨by repeat (first | (with_reducible first | exact HB.out | apply below_alloc | apply pw_below_drewN | apply below_drew1 | refine below_set ?_ (IsS92.ge HI0.out)) | exact HB.out)⟩⟩
                case round =>
                  clear H'
                  try clear c1
                  try clear p1
                  try clear q1
                  try clear hx1
                  try clear qi1
                  try clear p2
                  try clear c4
                  try clear c4b0
                  try clear c5
                  try clear c5b0
                  try clear c6
                  try clear c6b0
                  try clear c6b1
                  try clear p6
                  try clear c7
                  try clear c7b0
                  try clear c8
                  try clear c8b0
                  try clear p9
                  try clear q9
                  try clear c10
                  try clear c10b0
                  try clear c11
                  try clear c11b0
                  try clear p12
                  try clear q12
                  try clear hx156_0
                  try clear hx157_0
                  try clear p12
                  try clear p156
                  try clear p157
                  try clear p9
                  try clear q12
                  try clear q156
                  try clear q157
                  try clear q9
                  obtain ⟨x6_1, x7_1, rfl, rfl, HA, HK1, HI0, HK, HB⟩ := hrel
                  cases gk with
                  | zero => exact absurd HA.out (by simp [spec_l02Least.l0])
                  | succ k1 =>
                    have H := HA.out
                    clear HA
                    simp only [spec_l02Least.l0] at H
                    by_cases c15 : (wrap64 (x7_1 + 1)) < (l1.length : Int)
                    · rw [if_pos c15] at H
                      have c15b0 : decide ((wrap64 (x7_1 + 1)) < (l1.length : Int)) = true := decide_eq_true c15
                      clear c15
                      by_cases c16 : 0 ≤ x7_1
                      · rw [if_pos c16] at H
                        have c16b0 : decide (0 ≤ x7_1) = true := decide_eq_true c16
                        clear c16
                        by_cases c17 : x7_1 < (l1.length : Int)
                        · rw [if_pos c17] at H
                          have c17b0 : decide (x7_1 < (l1.length : Int)) = true := decide_eq_true c17
                          clear c17
                          obtain ⟨ji18, hji18⟩ : ∃ j_ : Int, (wrap64 (x7_1 + 1)) = j_ := ⟨_, rfl⟩
                          replace H : (if 0 ≤ (ji18) then (if (ji18) < (l1.length : Int) then (if 0 ≤ (rd l1 x7_1) then (if (rd l1 x7_1) < 16 then (if 0 ≤ (rd l1 (ji18)) then (if (rd l1 (ji18)) < 16 then ((spec_l00Min.f x6_1 (Arr.vrd2 16 s0_0 (rd l1 x7_1) (rd l1 (ji18)))).bind fun t160 => (spec_l02Least.l0 k1 l1 (l1.length : Int) t160 ji18 s0_0)) else (none)) else (none)) else (none)) else (none)) else (none)) else (none)) = some (r1, r2) := by first | (rw [hji18] at H; exact H) | (simp only [hji18] at H ⊢; exact H)
                          (try rw [hji18] at c15b0)
                          have hji18w : (IntKind.i64.wrap (x7_1 + 1)) = ji18 := (i64_w _).trans hji18
                          by_cases c19 : 0 ≤ (ji18)
                          · rw [if_pos c19] at H
                            have c19b0 : decide (0 ≤ (ji18)) = true := decide_eq_true c19
                            clear c19
                            by_cases c20 : (ji18) < (l1.length : Int)
                            · rw [if_pos c20] at H
                              have c20b0 : decide ((ji18) < (l1.length : Int)) = true := decide_eq_true c20
                              clear c20
                              by_cases c21 : 0 ≤ (rd l1 x7_1)
                              · rw [if_pos c21] at H
                                have c21b0 : decide (0 ≤ (rd l1 x7_1)) = true := decide_eq_true c21
                                clear c21
                                by_cases c22 : (rd l1 x7_1) < 16
                                · rw [if_pos c22] at H
                                  have c22b0 : decide ((rd l1 x7_1) < 16) = true := decide_eq_true c22
                                  clear c22
                                  by_cases c24 : 0 ≤ (rd l1 (ji18))
                                  · rw [if_pos c24] at H
                                    have c24b0 : decide (0 ≤ (rd l1 (ji18))) = true := decide_eq_true c24
                                    clear c24
                                    by_cases c25 : (rd l1 (ji18)) < 16
                                    · rw [if_pos c25] at H
                                      have c25b0 : decide ((rd l1 (ji18)) < 16) = true := decide_eq_true c25
                                      clear c25
                                      replace H := Option.bind_eq_some_iff.mp H
                                      obtain ⟨t160, A280, H⟩ := H
                                      replace H : (spec_l02Least.l0 k1 l1 (l1.length : Int) t160 ji18 s0_0) = some (r1, r2) := H
                                      have A28 := Aside0.mk A280
                                      clear A280
                                      have H' := Aside0.mk H
                                      clear H
                                      try go_wp2
                                      have n0_ := Aside0.mk (IsS92.drew HI0.out)
                                      have n1_ := Aside0.mk (keep_drew HK.out)
                                      have n2_ := Aside0.mk (below_drew1 HB.out)
                                      clear HI0
                                      clear HK
                                      clear HB
                                      have HI0 := n0_
                                      have HK := n1_
                                      have HB := n2_
                                      clear n0_ n1_ n2_
                                      have p158 : 0 ≤ (x7_1 : Int) := of_decide_eq_true (by first | (with_reducible assumption) | assumption)
                                      have q158 : x7_1 < (l1.length : Int) := of_decide_eq_true (by first | (with_reducible assumption) | assumption)
                                      obtain ⟨ad158, e158, hx158_0⟩ := Kd.at_int HR1.out x7_1 p158 q158
                                      have hw158_0 := hx158_0
                                      obtain rfl : ad156 = ad158 := (by injection e158)
                                      have hne158_0 := (show ((ad156.add (x7_1).toNat) : Addr).block ≠ g from by first | (rw [add_block]; exact hf1 ad156 rfl (by omega)) | (show (Addr.add _ _).block ≠ _; rw [add_block]; exact hf1 ad156 rfl (by omega)) | exact hf1 ad156 rfl (by omega))
                                      replace hx158_0 := keep_cell HK.out hx158_0 (by first | (rw [add_block]; exact hf1 _ rfl (by omega)) | exact hf1 _ rfl (by omega) | exact hf1 ad156 rfl (by omega))
                                      replace p158 := eq_true p158
                                      replace q158 := eq_true q158
                                      have p159 : 0 ≤ ((ji18) : Int) := of_decide_eq_true (by first | (with_reducible assumption) | assumption)
                                      have q159 : (ji18) < (l1.length : Int) := of_decide_eq_true (by first | (with_reducible assumption) | assumption)
                                      obtain ⟨ad159, e159, hx159_0⟩ := Kd.at_int HR1.out (ji18) p159 q159
                                      have hw159_0 := hx159_0
                                      obtain rfl : ad156 = ad159 := (by injection e159)
                                      have hne159_0 := (show ((ad156.add ((ji18)).toNat) : Addr).block ≠ g from by first | (rw [add_block]; exact hf1 ad156 rfl (by omega)) | (show (Addr.add _ _).block ≠ _; rw [add_block]; exact hf1 ad156 rfl (by omega)) | exact hf1 ad156 rfl (by omega))
                                      replace hx159_0 := keep_cell HK.out hx159_0 (by first | (rw [add_block]; exact hf1 _ rfl (by omega)) | exact hf1 _ rfl (by omega) | exact hf1 ad156 rfl (by omega))
                                      replace p159 := eq_true p159
                                      replace q159 := eq_true q159
                                      have p23 : 0 ≤ ((rd l1 x7_1) : Int) := of_decide_eq_true (by first | (with_reducible assumption) | assumption)
                                      have q23 : ((rd l1 x7_1) : Int) < 16 := of_decide_eq_true (by first | (with_reducible assumption) | assumption)
                                      replace p23 := eq_true p23
                                      replace q23 := eq_true q23
                                      have p26 : 0 ≤ ((rd l1 (ji18)) : Int) := of_decide_eq_true (by first | (with_reducible assumption) | assumption)
                                      have q26 : ((rd l1 (ji18)) : Int) < 16 := of_decide_eq_true (by first | (with_reducible assumption) | assumption)
                                      replace p26 := eq_true p26
                                      replace q26 := eq_true q26
                                      refine start_ (n := 17) (S := fun w' => w'.cell? (ad156.add (x7_1).toNat) = some (.int .i64 (rd l1 x7_1)) ∧ w'.cell? (ad156.add ((ji18)).toNat) = some (.int .i64 (rd l1 (ji18))) ∧ w'.cell? ⟨g, (rd l1 x7_1).toNat * 16 + (rd l1 (ji18)).toNat, none⟩ = some (.int .i64 (Arr.vrd2 16 s0_0 (rd l1 x7_1) (rd l1 (ji18))))) (ds := []) #[false, false, false, false, false, false, false, false, false, false, false, false, false, false, false, false, false] (by kernel_rfl) rfl rfl ⟨(keep_cell HK.out hw158_0 hne158_0), (keep_cell HK.out hw159_0 hne159_0), (Arr.cellN (off := 0) (l := (Arr.arL .i64 s0_0)) ((HI0.out).1) rfl ((rd l1 x7_1).toNat * 16 + (rd l1 (ji18)).toNat) ((rd l1 x7_1).toNat * 16 + (rd l1 (ji18)).toNat) (by omega) (by have a0_ := of_eq_true p23; have b0_ := of_eq_true q23; have a1_ := of_eq_true p26; have b1_ := of_eq_true q26; omega))⟩ (fun hHeld => ?_); refine with_tabW spec_l02Least.tab6 spec_l02Least.bits6 (fun HT_ HW_ => ?_)
                                      generalize wr.drew = w29 at HI0 HK HB hx158_0 hx159_0 hHeld ⊢
                                      refine pure_ (i := 0) (N := some 29) (v := ?_) (a' := ?_) #[true, false, false, false, false, false, false, false, false, false, false, false, false, false, false, false, false] rfl rfl (any_of HT_.out (by kernel_rfl)) (fun _ _ _ h => h) (Or.inl ⟨by rfl, ?_⟩) ?_ ?_
                                      rotate_left
                                      · intro w'
                                        go_simp
                                        with_reducible rfl
                                      rotate_left
                                      · simp only [Act.put, List.setIfInBounds_toArray, List.set_cons_zero, List.set_cons_succ, i64_w, i32_w]
                                        rfl
                                      refine pure_ (i := 1) (N := some 30) (v := ?_) (a' := ?_) #[true, true, false, false, false, false, false, false, false, false, false, false, false, false, false, false, false] rfl rfl (any_of HT_.out (by kernel_rfl)) (fun _ _ _ h => h) (Or.inl ⟨by rfl, ?_⟩) ?_ ?_
                                      rotate_left
                                      · intro w'
                                        go_simp
                                        with_reducible rfl
                                      rotate_left
                                      · simp only [Act.put, List.setIfInBounds_toArray, List.set_cons_zero, List.set_cons_succ, i64_w, i32_w]
                                        rfl
                                      refine pure_ (i := 2) (N := some 31) (v := ?_) (a' := ?_) #[true, true, true, false, false, false, false, false, false, false, false, false, false, false, false, false, false] rfl rfl (any_of HT_.out (by kernel_rfl)) (fun _ _ _ h => h) (Or.inl ⟨by rfl, ?_⟩) ?_ ?_
                                      rotate_left
                                      · intro w'
                                        go_simp
                                        with_reducible rfl
                                      rotate_left
                                      · simp only [Act.put, List.setIfInBounds_toArray, List.set_cons_zero, List.set_cons_succ, i64_w, i32_w]
                                        rfl
                                      refine pure_ (i := 3) (N := some 32) (v := ?_) (a' := ?_) #[true, true, true, true, false, false, false, false, false, false, false, false, false, false, false, false, false] rfl rfl (any_of HT_.out (by kernel_rfl)) (fun _ _ _ h => h) (Or.inl ⟨by rfl, ?_⟩) ?_ ?_
                                      rotate_left
                                      · intro w'
                                        go_simp
                                        with_reducible rfl
                                      rotate_left
                                      · simp only [Act.put, List.setIfInBounds_toArray, List.set_cons_zero, List.set_cons_succ, i64_w, i32_w]
                                        rfl
                                      refine pure_ (i := 4) (N := some 33) (v := ?_) (a' := ?_) #[true, true, true, true, true, false, false, false, false, false, false, false, false, false, false, false, false] rfl rfl (any_of HT_.out (by kernel_rfl)) (fun _ _ _ h => h) (Or.inl ⟨by rfl, ?_⟩) ?_ ?_
                                      rotate_left
                                      · intro w'
                                        go_simp
                                        with_reducible rfl
                                      rotate_left
                                      · simp only [Act.put, List.setIfInBounds_toArray, List.set_cons_zero, List.set_cons_succ, i64_w, i32_w]
                                        rfl
                                      refine pure_ (i := 6) (N := some 35) (v := ?_) (a' := ?_) #[true, true, true, true, true, false, true, false, false, false, false, false, false, false, false, false, false] rfl rfl (any_of HT_.out (by kernel_rfl)) (fun _ _ _ h => h) (Or.inl ⟨by rfl, ?_⟩) ?_ ?_
                                      rotate_left
                                      · intro w'
                                        go_simp
                                        with_reducible rfl
                                      rotate_left
                                      · simp only [Act.put, List.setIfInBounds_toArray, List.set_cons_zero, List.set_cons_succ, i64_w, i32_w]
                                        rfl
                                      refine pure_ (i := 7) (N := some 36) (v := ?_) (a' := ?_) #[true, true, true, true, true, false, true, true, false, false, false, false, false, false, false, false, false] rfl rfl (any_of HT_.out (by kernel_rfl)) (fun _ _ _ h => h) (Or.inl ⟨by rfl, ?_⟩) ?_ ?_
                                      rotate_left
                                      · intro w'
                                        go_simp
                                        with_reducible rfl
                                      rotate_left
                                      · simp only [Act.put, List.setIfInBounds_toArray, List.set_cons_zero, List.set_cons_succ, i64_w, i32_w]
                                        rfl
                                      refine pure_ (i := 8) (N := some 37) (v := ?_) (a' := ?_) #[true, true, true, true, true, false, true, true, true, false, false, false, false, false, false, false, false] rfl rfl (any_of HT_.out (by kernel_rfl)) (fun _ _ _ h => h) (Or.inl ⟨by rfl, ?_⟩) ?_ ?_
                                      rotate_left
                                      · intro w'
                                        go_simp
                                        with_reducible rfl
                                      rotate_left
                                      · simp only [Act.put, List.setIfInBounds_toArray, List.set_cons_zero, List.set_cons_succ, i64_w, i32_w]
                                        rfl
                                      refine pure_ (i := 9) (N := some 38) (v := ?_) (a' := ?_) #[true, true, true, true, true, false, true, true, true, true, false, false, false, false, false, false, false] rfl rfl (any_of HT_.out (by kernel_rfl)) (fun _ _ _ h => h) (Or.inl ⟨by rfl, ?_⟩) ?_ ?_
                                      rotate_left
                                      · intro w'
                                        go_simp
                                        with_reducible rfl
                                      rotate_left
                                      · simp only [Act.put, List.setIfInBounds_toArray, List.set_cons_zero, List.set_cons_succ, i64_w, i32_w]
                                        rfl
                                      refine pure_ (i := 11) (N := some 40) (v := ?_) (a' := ?_) #[true, true, true, true, true, false, true, true, true, true, false, true, false, false, false, false, false] rfl rfl (any_of HT_.out (by kernel_rfl)) (fun _ _ _ h => h) (Or.inl ⟨by rfl, ?_⟩) ?_ ?_
                                      rotate_left
                                      · intro w'
                                        go_simp
                                        with_reducible rfl
                                      rotate_left
                                      · simp only [Act.put, List.setIfInBounds_toArray, List.set_cons_zero, List.set_cons_succ, i64_w, i32_w]
                                        rfl
                                      refine take_ (i := 5) (N := some 34) (v := ?_) (a' := ?_) #[true, true, true, true, true, true, true, true, true, true, false, true, false, false, false, false, false] rfl rfl (take_ofW HT_.out HW_.out (by kernel_rfl)) (fun _ _ _ h => h) (Or.inl ⟨by rfl, ?_⟩) hHeld ?_ ?_
                                      rotate_left
                                      · rintro w' ⟨s0, s1, s2⟩
                                        go_simp
                                        with_reducible rfl
                                      rotate_left
                                      · simp only [Act.put, List.setIfInBounds_toArray, List.set_cons_zero, List.set_cons_succ, i64_w, i32_w]
                                        rfl
                                      refine pure_ (i := 12) (N := some 41) (v := ?_) (a' := ?_) #[true, true, true, true, true, true, true, true, true, true, false, true, true, false, false, false, false] rfl rfl (any_of HT_.out (by kernel_rfl)) (fun _ _ _ h => h) (Or.inl ⟨by rfl, ?_⟩) ?_ ?_
                                      rotate_left
                                      · intro w'
                                        go_simp
                                        with_reducible rfl
                                      rotate_left
                                      · simp only [Act.put, List.setIfInBounds_toArray, List.set_cons_zero, List.set_cons_succ, i64_w, i32_w]
                                        rfl
                                      refine take_ (i := 10) (N := some 39) (v := ?_) (a' := ?_) #[true, true, true, true, true, true, true, true, true, true, true, true, true, false, false, false, false] rfl rfl (take_ofW HT_.out HW_.out (by kernel_rfl)) (fun _ _ _ h => h) (Or.inl ⟨by rfl, ?_⟩) hHeld ?_ ?_
                                      rotate_left
                                      · rintro w' ⟨s0, s1, s2⟩
                                        go_simp
                                        with_reducible rfl
                                      rotate_left
                                      · simp only [Act.put, List.setIfInBounds_toArray, List.set_cons_zero, List.set_cons_succ, i64_w, i32_w]
                                        rfl
                                      refine pure_ (i := 13) (N := some 42) (v := ?_) (a' := ?_) #[true, true, true, true, true, true, true, true, true, true, true, true, true, true, false, false, false] rfl rfl (any_of HT_.out (by kernel_rfl)) (fun _ _ _ h => h) (Or.inl ⟨by rfl, ?_⟩) ?_ ?_
                                      rotate_left
                                      · intro w'
                                        go_simp
                                        with_reducible rfl
                                      rotate_left
                                      · simp only [Act.put, List.setIfInBounds_toArray, List.set_cons_zero, List.set_cons_succ, i64_w, i32_w]
                                        rfl
                                      refine take_ (i := 14) (N := some 43) (v := ?_) (a' := ?_) #[true, true, true, true, true, true, true, true, true, true, true, true, true, true, true, false, false] rfl rfl (take_ofW HT_.out HW_.out (by kernel_rfl)) (fun _ _ _ h => h) (Or.inl ⟨by rfl, ?_⟩) hHeld ?_ ?_
                                      rotate_left
                                      · rintro w' ⟨s0, s1, s2⟩
                                        go_simp
                                        with_reducible rfl
                                      rotate_left
                                      · simp only [Act.put, List.setIfInBounds_toArray, List.set_cons_zero, List.set_cons_succ, i64_w, i32_w]
                                        rfl
                                      refine one_ (i := 15) (N := some 44) #[true, true, true, true, true, true, true, true, true, true, true, true, true, true, true, true, false] rfl rfl (one_of HT_.out (by kernel_rfl)) (by decide) (fun K hK => ?_)
                                      refine goes_ Try.func63 (by kernel_rfl) rfl #[.int .i64 x6_1, .int .i64 (Arr.vrd2 16 s0_0 (rd l1 x7_1) (rd l1 (ji18)))] (by rfl) rfl rfl (by (try simp only [List.map_toArray, List.map_cons, List.map_nil]); first | done | (simp only [hji18]; rfl) | (go_simp; done) | rfl | (simp only [List.length_drop, List.length_take]; rfl)) ?_
                                      with_reducible refine (spec_l00Min.calls x6_1 (Arr.vrd2 16 s0_0 (rd l1 x7_1) (rd l1 (ji18))) t160 _ A28.out).mono ?_
                                      rintro e w30 ⟨rfl, hb⟩
                                      refine ⟨_, rfl, ?_⟩
                                      have n0_ := Aside0.mk (IsS92.below (by repeat (first | (with_reducible first | exact HI0.out | apply IsS92.alloc | apply IsS92.drewN | apply IsS92.drew | apply IsS92.set_0) | exact HI0.out)) hb)
                                      have n1_ := Aside0.mk (KeepBut.trans (by repeat (first | (with_reducible first | exact HK.out | apply KeepBut.set_ | apply keep_drewN | apply keep_drew | apply keep_alloc) | exact HK.out)) (KeepBut.of_below hb g none) (.inl rfl))
                                      have n2_ := Aside0.mk (below_step (by repeat (first | (with_reducible first | exact HB.out | apply below_alloc | apply pw_below_drewN | apply below_drew1 | refine below_set ?_ (IsS92.ge HI0.out)) | exact HB.out)) hb)
                                      clear HI0
                                      clear HK
                                      clear HB
                                      have HI0 := n0_
                                      have HK := n1_
                                      have HB := n2_
                                      clear n0_ n1_ n2_
                                      (try clear hb)
                                      (try clear hb2)
                                      (try clear hk)
                                      (try clear hi)
                                      refine hK.out _ _ ⟨(keep_cell HK.out hw158_0 hne158_0), (keep_cell HK.out hw159_0 hne159_0), (Arr.cellN (off := 0) (l := (Arr.arL .i64 s0_0)) ((HI0.out).1) rfl ((rd l1 x7_1).toNat * 16 + (rd l1 (ji18)).toNat) ((rd l1 x7_1).toNat * 16 + (rd l1 (ji18)).toNat) (by omega) (by have a0_ := of_eq_true p23; have b0_ := of_eq_true q23; have a1_ := of_eq_true p26; have b1_ := of_eq_true q26; omega))⟩ (fun hHeld => ?_)
                                      clear hK K
                                      refine norm_ (a' := ?_) ?_ ?_
                                      rotate_left
                                      · show Act.put _ (some 44) _ = _
                                        simp only [Act.put, List.setIfInBounds_toArray, List.set_cons_zero, List.set_cons_succ, i64_w, i32_w]
                                        rfl
                                      refine pure_ (i := 16) (N := some 6) (v := ?_) (a' := ?_) #[true, true, true, true, true, true, true, true, true, true, true, true, true, true, true, true, true] rfl rfl (any_of HT_.out (by kernel_rfl)) (fun _ _ _ h => h) (Or.inl ⟨by rfl, ?_⟩) ?_ ?_
                                      rotate_left
                                      · intro w'
                                        go_simp
                                        with_reducible rfl
                                      rotate_left
                                      · simp only [Act.put, List.setIfInBounds_toArray, List.set_cons_zero, List.set_cons_succ, i64_w, i32_w]
                                        rfl
                                      refine done_ (done_of HT_.out (by kernel_rfl)) ?_
                                      try go_wp2
                                      go_roundg k1
                                      case measure => have := HK1.out; omega
                                      case rel => exact ⟨(t160), (ji18), (by first | rfl | (simp; done) | (simp [*]; done)), (by first | rfl | (simp; done) | (simp only [← hji18] <;> (first | rfl | simp)) | (simp [*]; done)), H', ⟨by have := HK1.out; omega⟩, ⟨by repeat (first | (with_reducible first | exact HI0.out | apply IsS92.alloc | apply IsS92.drewN | apply IsS92.drew | apply IsS92.set_0) | exact HI0.out)⟩, ⟨by repeat (first | (with_reducible first | exact HK.out | apply KeepBut.set_ | apply keep_drewN | apply keep_drew | apply keep_alloc) | exact HK.out)⟩, ⟨by repeat (first | (with_reducible first | exact HB.out | apply below_alloc | apply pw_below_drewN | apply below_drew1 | refine below_set ?_ (IsS92.ge HI0.out)) | exact HB.out)⟩⟩
                                    · rw [if_neg c25] at H
                                      exact absurd H (by simp)
                                  · rw [if_neg c24] at H
                                    exact absurd H (by simp)
                                · rw [if_neg c22] at H
                                  exact absurd H (by simp)
                              · rw [if_neg c21] at H
                                exact absurd H (by simp)
                            · rw [if_neg c20] at H
                              exact absurd H (by simp)
                          · rw [if_neg c19] at H
                            exact absurd H (by simp)
                        · rw [if_neg c17] at H
                          exact absurd H (by simp)
                      · rw [if_neg c16] at H
                        exact absurd H (by simp)
                    · rw [if_neg c15] at H
                      have c15b0 : decide ((wrap64 (x7_1 + 1)) < (l1.length : Int)) = false := decide_eq_false c15
                      clear c15
                      simp only [Option.some.injEq, Prod.mk.injEq] at H
                      obtain ⟨rfl, rfl⟩ := H
                      go_wp2
                      go_ret
                      exact ⟨by first | rfl | (simp [errW_none, errW_some] <;> rfl) | (simp only [← hji3]; first | rfl | (simp [errW_none, errW_some] <;> rfl)) | (simp [*, errW_none, errW_some] <;> rfl), by repeat (first | (with_reducible first | exact HI0.out | apply IsS92.alloc | apply IsS92.drewN | apply IsS92.drew | apply IsS92.set_0) | exact HI0.out), by repeat (first | (with_reducible first | exact HB.out | apply below_alloc | apply pw_below_drewN | apply below_drew1 | refine below_set ?_ (IsS92.ge HI0.out)) | exact HB.out), by repeat (first | (with_reducible first | exact HK.out | apply KeepBut.set_ | apply keep_drewN | apply keep_drew | apply keep_alloc) | exact HK.out)⟩
              · rw [if_neg c11] at H
                exact absurd H (by simp)
            · rw [if_neg c10] at H
              exact absurd H (by simp)
          · rw [if_neg c8] at H
            exact absurd H (by simp)
        · rw [if_neg c7] at H
          exact absurd H (by simp)
      · rw [if_neg c6] at H
        exact absurd H (by simp)
    · rw [if_neg c5] at H
      exact absurd H (by simp)
  · rw [if_neg c4] at H
    exact absurd H (by simp)

end Go.Proofs.Ytofcgkcpkngocaa.MCancelCircle
