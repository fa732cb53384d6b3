-- by a program of this session, for this claim
import Derived.Test.YtofcgkcpkngocaaMCirclesx0
import Derived.Test.YtofcgkcpkngocaaMCirclesx8
namespace Go.Proofs.Ytofcgkcpkngocaa.MCircles
open Go.RowKit Go.Proofs.YtofcgkcpkngocaaW.PrintWords Go.Proofs.YtofcgkcpkngocaaW.PrintLast Go.Proofs.YtofcgkcpkngocaaW.PrintMore
attribute [local go_sem] max2_int min2_int max_two min_two max_three min_three max_four min_four   -- for this text's walks alone
set_option linter.unusedVariables false
set_option linter.unusedSimpArgs false

/-! ### impl_sums_cancel: function 71 -/
mutual
def impl_sums_cancel.l0 : Nat → List Int → Int → List Int → Int → Int → Vector Int 256 → Option (Int × Vector Int 256)
  | 0, _, _, _, _, _, _ => none
  | k + 1, x1, x5, x11, x12, x13, x1000 => if x13 < x12 then (if 0 ≤ x13 then (if x13 < (x11.length : Int) then (if (x1.length : Int) = 0 then (none) else (if 0 ≤ (Int.tmod (wrap64 (x13 + 1)) (x1.length : Int)) then (if (Int.tmod (wrap64 (x13 + 1)) (x1.length : Int)) < (x1.length : Int) then (if 0 ≤ (rd x11 x13) then (if (rd x11 x13) < 16 then (if 0 ≤ (rd x1 (Int.tmod (wrap64 (x13 + 1)) (x1.length : Int))) then (if (rd x1 (Int.tmod (wrap64 (x13 + 1)) (x1.length : Int))) < 16 then (if x5 < 0 then (impl_sums_cancel.l0 k x1 (Arr.vrd2 16 x1000 (rd x11 x13) (rd x1 (Int.tmod (wrap64 (x13 + 1)) (x1.length : Int)))) x11 x12 (wrap64 (x13 + 1)) x1000) else (if (Arr.vrd2 16 x1000 (rd x11 x13) (rd x1 (Int.tmod (wrap64 (x13 + 1)) (x1.length : Int)))) < x5 then (impl_sums_cancel.l0 k x1 (Arr.vrd2 16 x1000 (rd x11 x13) (rd x1 (Int.tmod (wrap64 (x13 + 1)) (x1.length : Int)))) x11 x12 (wrap64 (x13 + 1)) x1000) else (impl_sums_cancel.l0 k x1 x5 x11 x12 (wrap64 (x13 + 1)) x1000))) else (none)) else (none)) else (none)) else (none)) else (none)) else (none))) else (none)) else (none)) else (impl_sums_cancel.l1 k x1 x5 x1 (x1.length : Int) 0 x1000)
def impl_sums_cancel.l1 : Nat → List Int → Int → List Int → Int → Int → Vector Int 256 → Option (Int × Vector Int 256)
  | 0, _, _, _, _, _, _ => none
  | k + 1, x1, x5, x41, x42, x43, x1000 => if x43 < x42 then (if 0 ≤ x43 then (if x43 < (x41.length : Int) then (if (x1.length : Int) = 0 then (none) else (if 0 ≤ (Int.tmod (wrap64 (x43 + 1)) (x1.length : Int)) then (if (Int.tmod (wrap64 (x43 + 1)) (x1.length : Int)) < (x1.length : Int) then (if 0 ≤ (rd x41 x43) then (if (rd x41 x43) < 16 then (if 0 ≤ (rd x1 (Int.tmod (wrap64 (x43 + 1)) (x1.length : Int))) then (if (rd x1 (Int.tmod (wrap64 (x43 + 1)) (x1.length : Int))) < 16 then (impl_sums_cancel.l1 k x1 x5 x41 x42 (wrap64 (x43 + 1)) (Arr.vst2 16 x1000 (rd x41 x43) (rd x1 (Int.tmod (wrap64 (x43 + 1)) (x1.length : Int))) (wrap64 ((Arr.vrd2 16 x1000 (rd x41 x43) (rd x1 (Int.tmod (wrap64 (x43 + 1)) (x1.length : Int)))) - x5)))) else (none)) else (none)) else (none)) else (none)) else (none)) else (none))) else (none)) else (none)) else (some (x5, x1000))
end
def impl_sums_cancel.f (k : Nat) (s0_0 : Vector Int 256) (l1 : List Int) : Option (Int × Vector Int 256) := impl_sums_cancel.l0 k l1 (-1) l1 (l1.length : Int) 0 s0_0
theorem impl_sums_cancel.mono_l : ∀ k, (∀ y0 y1 y2 y3 y4 y5, LeO (impl_sums_cancel.l0 k y0 y1 y2 y3 y4 y5) (impl_sums_cancel.l0 (k + 1) y0 y1 y2 y3 y4 y5)) ∧ (∀ y0 y1 y2 y3 y4 y5, LeO (impl_sums_cancel.l1 k y0 y1 y2 y3 y4 y5) (impl_sums_cancel.l1 (k + 1) y0 y1 y2 y3 y4 y5))
  | 0 => ⟨fun _ _ _ _ _ _ r h => by simp [impl_sums_cancel.l0] at h, fun _ _ _ _ _ _ r h => by simp [impl_sums_cancel.l1] at h⟩
  | k + 1 => by
    obtain ⟨ih0, ih1⟩ := impl_sums_cancel.mono_l k
    refine ⟨?_, ?_⟩
    · intro y0 y1 y2 y3 y4 y5
      unfold impl_sums_cancel.l0
      repeat' first
      | (with_reducible exact ih0 _ _ _ _ _ _)
      | (with_reducible exact ih1 _ _ _ _ _ _)
      | (with_reducible exact LeO.refl _)
      | (with_reducible exact LeO.none _)
      | (with_reducible refine LeO.ite ?_ ?_)
      | (with_reducible refine LeO.bind ?_ (fun _ => ?_))
      | exact ih0 _ _ _ _ _ _
      | exact ih1 _ _ _ _ _ _
      | exact LeO.none _
      | refine LeO.ite ?_ ?_
      | refine LeO.bind ?_ (fun _ => ?_)
    · intro y0 y1 y2 y3 y4 y5
      unfold impl_sums_cancel.l1
      repeat' first
      | (with_reducible exact ih0 _ _ _ _ _ _)
      | (with_reducible exact ih1 _ _ _ _ _ _)
      | (with_reducible exact LeO.refl _)
      | (with_reducible exact LeO.none _)
      | (with_reducible refine LeO.ite ?_ ?_)
      | (with_reducible refine LeO.bind ?_ (fun _ => ?_))
      | exact ih0 _ _ _ _ _ _
      | exact ih1 _ _ _ _ _ _
      | exact LeO.none _
      | refine LeO.ite ?_ ?_
      | refine LeO.bind ?_ (fun _ => ?_)
theorem impl_sums_cancel.mono : ∀ a0 a1 k, LeO (impl_sums_cancel.f k a0 a1) (impl_sums_cancel.f (k + 1) a0 a1) := by
  intro a0 a1 k; obtain ⟨ih0, ih1⟩ := impl_sums_cancel.mono_l k; unfold impl_sums_cancel.f
  repeat' first
      | (with_reducible exact ih0 _ _ _ _ _ _)
      | (with_reducible exact ih1 _ _ _ _ _ _)
      | (with_reducible exact LeO.refl _)
      | (with_reducible exact LeO.none _)
      | (with_reducible refine LeO.ite ?_ ?_)
      | (with_reducible refine LeO.bind ?_ (fun _ => ?_))
      | exact ih0 _ _ _ _ _ _
      | exact ih1 _ _ _ _ _ _
      | exact LeO.none _
      | refine LeO.ite ?_ ?_
      | refine LeO.bind ?_ (fun _ => ?_)
def impl_sums_cancel.T5 : Bool × List (List Nat × List Nat) := (true, [([], []), ([], []), ([], []), ([], []), ([3], [3]), ([], []), ([5], [5]), ([4, 6], [4, 6]), ([2, 7], [2, 7]), ([8], [8]), ([0], [0]), ([10, 1], [1, 10]), ([11, 9], [9, 11]), ([12], [12]), ([13, 0, 1, 2, 3, 4, 5, 6, 7, 8, 9, 10, 11, 12, 13], [13])])
def impl_sums_cancel.B5 : List Nat := [0, 0, 0, 0, 8, 0, 32, 120, 252, 508, 1, 1027, 4095, 8191, 16383]
theorem impl_sums_cancel.tab5 : rtab .any (opsOf Try.f71 5) = impl_sums_cancel.T5 := by kernel_rfl
theorem impl_sums_cancel.bits5 : waitsOk impl_sums_cancel.T5.2 impl_sums_cancel.B5 = true := by kernel_rfl
def impl_sums_cancel.T12 : Bool × List (List Nat × List Nat) := (true, [([], []), ([], []), ([], []), ([], []), ([3], [3]), ([], []), ([5], [5]), ([4, 6], [4, 6]), ([2, 7], [2, 7]), ([8], [8]), ([0], [0]), ([10, 1], [1, 10]), ([11, 9], [9, 11]), ([12], [12]), ([], []), ([13, 14], [13, 14]), ([0], [0]), ([16, 1], [1, 16]), ([17, 9, 0, 1, 2, 3, 4, 5, 6, 7, 8, 9, 10, 11, 12, 13, 14, 15], [9, 17]), ([18, 15, 0, 1, 2, 3, 4, 5, 6, 7, 8, 9, 10, 11, 12, 13, 14, 15], [15, 18])])
def impl_sums_cancel.B12 : List Nat := [0, 0, 0, 0, 8, 0, 32, 120, 252, 508, 1, 1027, 4095, 8191, 0, 32767, 1, 65539, 262143, 524287]
theorem impl_sums_cancel.tab12 : rtab .any (opsOf Try.f71 12) = impl_sums_cancel.T12 := by kernel_rfl
theorem impl_sums_cancel.bits12 : waitsOk impl_sums_cancel.T12.2 impl_sums_cancel.B12 = true := by kernel_rfl
set_option maxHeartbeats 8000000 in
set_option maxRecDepth 100000 in
theorem impl_sums_cancel.calls (k : Nat) (g : Nat) (s0_0 : Vector Int 256) (A1 : Option Addr) (c1 : Nat) (l1 : List Int) (r1 : Int) (r2 : Vector Int 256) (w0 w : World) (hI : IsS70 w0 w g s0_0) (hB : Below w0.heap.size w0 w) (hr1 : Kd.C (Kd.int .i64) w A1 l1.length l1) (hc1 : l1.length ≤ c1) (hf1 : ∀ ad, A1 = some ad → 0 < l1.length → ad.block ≠ g) (h : impl_sums_cancel.f k s0_0 l1 = some (r1, r2)) :
    Calls Try.prog 71 #[.pointer (some ⟨g, 0, none⟩), .slice A1 l1.length c1] w fun e w' => e = .returned (.int .i64 r1) ∧ IsS70 w0 w' g r2 ∧ Below w0.heap.size w0 w' ∧ KeepBut w w' g none := by
  have HR1 := A_ hr1; have HC1 := A_ hc1; clear hr1 hc1; have HI0 := A_ hI; have HK := A_ (KeepBut.refl w g none); have HL := A_ hB.size; clear hI; have HW0 := A_ hB.size; have HB := A_ hB; clear hB; have H : (impl_sums_cancel.l0 k l1 (-1) l1 (l1.length : Int) 0 s0_0) = some (r1, r2) := h; clear h; have H' := A_ H; clear H; go_enter Try.func71, Try.ntmps71; go_wp2; go_loopg [5, 13] k (fun kq v5 v13 w' => ∃ (x5_1 : Int) (x13_1 : Int), v5 = .int .i64 x5_1 ∧ v13 = .int .i64 x13_1 ∧ Aside0 (impl_sums_cancel.l0 kq l1 x5_1 l1 (l1.length : Int) x13_1 s0_0 = some (r1, r2)) ∧ Aside0 (kq ≤ k) ∧ Aside0 (IsS70 w0 w' g s0_0) ∧ Aside0 (KeepBut w w' g none) ∧ Aside0 (Below w0.heap.size w0 w'))
  case atStart => exact ⟨((-1)), (0), z11_, z11_, H', ⟨Nat.le_refl _⟩, ⟨z7_⟩, ⟨z6_⟩, ⟨z5_⟩⟩
  case round =>
    clear H'; (try clear c1); (try clear p2); obtain ⟨x5_1, x13_1, rfl, rfl, HA, HK1, HI0, HK, HB⟩ := hrel
    cases gk with
    | zero => exact absurd HA.out (by simp [impl_sums_cancel.l0])
    | succ k1 =>
      have H := HA.out; clear HA; simp only [impl_sums_cancel.l0] at H; by_cases c3 : x13_1 < (l1.length : Int)
      · rw [if_pos c3] at H; have c3b0 : decide (x13_1 < (l1.length : Int)) = true := decide_eq_true c3; clear c3; by_cases c4 : 0 ≤ x13_1
        · rw [if_pos c4] at H; have c4b0 : decide (0 ≤ x13_1) = true := decide_eq_true c4; clear c4; by_cases c5 : x13_1 < (l1.length : Int)
          · rw [if_pos c5] at H; have c5b0 : decide (x13_1 < (l1.length : Int)) = true := decide_eq_true c5; clear c5; by_cases c6 : (l1.length : Int) = 0
            · rw [if_pos c6] at H; exact absurd H (by simp)
            · rw [if_neg c6] at H; have c6b0 : ((l1.length : Int) == 0) = false := beq_eq_false_iff_ne.mpr c6; have c6b1 : ((l1.length : Int) != 0) = true := bne_iff_ne.mpr c6; (have c6b2 : ¬ (l1 = []) := fun h_ => c6 (by rw [h_]; rfl)); obtain ⟨ji7, hji7⟩ : ∃ j_ : Int, (Int.tmod (wrap64 (x13_1 + 1)) (l1.length : Int)) = j_ := ⟨_, rfl⟩; (replace H : (if 0 ≤ (ji7) then (if (ji7) < (l1.length : Int) then (if 0 ≤ (rd l1 x13_1) then (if (rd l1 x13_1) < 16 then (if 0 ≤ (rd l1 (ji7)) then (if (rd l1 (ji7)) < 16 then (if x5_1 < 0 then (impl_sums_cancel.l0 k1 l1 (Arr.vrd2 16 s0_0 (rd l1 x13_1) (rd l1 (ji7))) l1 (l1.length : Int) (wrap64 (x13_1 + 1)) s0_0) else (if (Arr.vrd2 16 s0_0 (rd l1 x13_1) (rd l1 (ji7))) < x5_1 then (impl_sums_cancel.l0 k1 l1 (Arr.vrd2 16 s0_0 (rd l1 x13_1) (rd l1 (ji7))) l1 (l1.length : Int) (wrap64 (x13_1 + 1)) s0_0) else (impl_sums_cancel.l0 k1 l1 x5_1 l1 (l1.length : Int) (wrap64 (x13_1 + 1)) s0_0))) else (none)) else (none)) else (none)) else (none)) else (none)) else (none)) = some (r1, r2) := by first | (rw [hji7] at H; exact H) | (simp only [hji7] at H ⊢; exact H)); by_cases c8 : 0 ≤ (ji7)
              · rw [if_pos c8] at H; have c8b0 : decide (0 ≤ (ji7)) = true := decide_eq_true c8; clear c8; by_cases c9 : (ji7) < (l1.length : Int)
                · rw [if_pos c9] at H; have c9b0 : decide ((ji7) < (l1.length : Int)) = true := decide_eq_true c9; clear c9; by_cases c10 : 0 ≤ (rd l1 x13_1)
                  · rw [if_pos c10] at H; have c10b0 : decide (0 ≤ (rd l1 x13_1)) = true := decide_eq_true c10; clear c10; by_cases c11 : (rd l1 x13_1) < 16
                    · rw [if_pos c11] at H; have c11b0 : decide ((rd l1 x13_1) < 16) = true := decide_eq_true c11; clear c11; by_cases c13 : 0 ≤ (rd l1 (ji7))
                      · rw [if_pos c13] at H; have c13b0 : decide (0 ≤ (rd l1 (ji7))) = true := decide_eq_true c13; clear c13; by_cases c14 : (rd l1 (ji7)) < 16
                        · rw [if_pos c14] at H; have c14b0 : decide ((rd l1 (ji7)) < 16) = true := decide_eq_true c14; clear c14; by_cases c17 : x5_1 < 0
                          · rw [if_pos c17] at H; have c17b0 : decide (x5_1 < 0) = true := decide_eq_true c17; clear c17; have H' := A_ H; clear H; have p311 : 0 ≤ (x13_1 : Int) := of_decide_eq_true z3_; have q311 : x13_1 < (l1.length : Int) := of_decide_eq_true z3_; obtain ⟨ad311, e311, hx311_0⟩ := Kd.at_int HR1.out x13_1 p311 q311; cases e311; replace hx311_0 := keep_cell HK.out hx311_0 z61_; replace p311 := eq_true p311; replace q311 := eq_true q311; (try go_wp2); have n0_ := A_ (IsS70.drew HI0.out); have n1_ := A_ (keep_drew HK.out); have n2_ := A_ (below_drew1 HB.out); clear HI0; clear HK; clear HB; have HI0 := n0_; have HK := n1_; have HB := n2_; clear n0_ n1_ n2_; have p312 : 0 ≤ ((ji7) : Int) := of_decide_eq_true z3_; have q312 : (ji7) < (l1.length : Int) := of_decide_eq_true z3_; obtain ⟨ad312, e312, hx312_0⟩ := Kd.at_int HR1.out (ji7) p312 q312; have hw312_0 := hx312_0; obtain rfl : ad311 = ad312 := (by injection e312); have hne312_0 := (show ((ad311.add ((ji7)).toNat) : Addr).block ≠ g from z85_); replace hx312_0 := keep_cell HK.out hx312_0 z61_; replace p312 := eq_true p312; replace q312 := eq_true q312; have p12 : 0 ≤ ((rd l1 x13_1) : Int) := of_decide_eq_true z3_; have q12 : ((rd l1 x13_1) : Int) < 16 := of_decide_eq_true z3_; replace p12 := eq_true p12; replace q12 := eq_true q12; have p15 : 0 ≤ ((rd l1 (ji7)) : Int) := of_decide_eq_true z3_; have q15 : ((rd l1 (ji7)) : Int) < 16 := of_decide_eq_true z3_; replace p15 := eq_true p15; replace q15 := eq_true q15; refine start_ (n := 15) (S := fun w' => w'.cell? (ad311.add ((ji7)).toNat) = some (.int .i64 (rd l1 (ji7))) ∧ w'.cell? ⟨g, (rd l1 x13_1).toNat * 16 + (rd l1 (ji7)).toNat, none⟩ = some (.int .i64 (Arr.vrd2 16 s0_0 (rd l1 x13_1) (rd l1 (ji7))))) (ds := []) #[false, false, false, false, false, false, false, false, false, false, false, false, false, false, false] z13_ rfl rfl ⟨(keep_cell HK.out hw312_0 hne312_0), (Arr.cellN (off := 0) (l := (Arr.arL .i64 s0_0)) ((HI0.out).1) rfl ((rd l1 x13_1).toNat * 16 + (rd l1 (ji7)).toNat) ((rd l1 x13_1).toNat * 16 + (rd l1 (ji7)).toNat) (by omega) z83_)⟩ (fun hHeld => ?_); refine with_tabW impl_sums_cancel.tab5 impl_sums_cancel.bits5 (fun HT_ HW_ => ?_); generalize wr.drew = w18 at HI0 HK HB hx312_0 hHeld ⊢; refine pure_ (i := 0) (N := some 18) (v := ?_) (a' := ?_) #[true, false, false, false, false, false, false, false, false, false, false, false, false, false, false] rfl rfl (any_of HT_.out z13_) (fun _ _ _ h => h) (Or.inl ⟨by rfl, ?_⟩) ?_ ?_; rotate_left
                            · intro w'; go_simp; with_reducible rfl
                            rotate_left
                            · exact zp_
                            refine pure_ (i := 1) (N := some 19) (v := ?_) (a' := ?_) #[true, true, false, false, false, false, false, false, false, false, false, false, false, false, false] rfl rfl (any_of HT_.out z13_) (fun _ _ _ h => h) (Or.inl ⟨by rfl, ?_⟩) ?_ ?_; rotate_left
                            · intro w'; go_simp; with_reducible rfl
                            rotate_left
                            · exact zp_
                            refine pure_ (i := 2) (N := some 20) (v := ?_) (a' := ?_) #[true, true, true, false, false, false, false, false, false, false, false, false, false, false, false] rfl rfl (any_of HT_.out z13_) (fun _ _ _ h => h) (Or.inl ⟨by rfl, ?_⟩) ?_ ?_; rotate_left
                            · intro w'; go_simp; with_reducible rfl
                            rotate_left
                            · exact zp_
                            refine pure_ (i := 3) (N := some 21) (v := ?_) (a' := ?_) #[true, true, true, true, false, false, false, false, false, false, false, false, false, false, false] rfl rfl (any_of HT_.out z13_) (fun _ _ _ h => h) (Or.inl ⟨by rfl, ?_⟩) ?_ ?_; rotate_left
                            · intro w'; go_simp; with_reducible rfl
                            rotate_left
                            · exact zp_
                            refine pure_ (i := 4) (N := some 22) (v := ?_) (a' := ?_) #[true, true, true, true, true, false, false, false, false, false, false, false, false, false, false] rfl rfl (any_of HT_.out z13_) (fun _ _ _ h => h) (Or.inl ⟨by rfl, ?_⟩) ?_ ?_; rotate_left
                            · intro w'; go_simp; with_reducible rfl
                            rotate_left
                            · exact zp_
                            refine pure_ (i := 5) (N := some 23) (v := ?_) (a' := ?_) #[true, true, true, true, true, true, false, false, false, false, false, false, false, false, false] rfl rfl (any_of HT_.out z13_) (fun _ _ _ h => h) (Or.inl ⟨by rfl, ?_⟩) ?_ ?_; rotate_left
                            · intro w'; go_simp; with_reducible rfl
                            rotate_left
                            · exact zp_
                            refine pure_ (i := 6) (N := some 24) (v := ?_) (a' := ?_) #[true, true, true, true, true, true, true, false, false, false, false, false, false, false, false] rfl rfl (any_of HT_.out z13_) (fun _ _ _ h => h) (Or.inl ⟨by rfl, ?_⟩) ?_ ?_; rotate_left
                            · intro w'; go_simp; with_reducible rfl
                            rotate_left
                            · exact zp_
                            refine pure_ (i := 7) (N := some 25) (v := ?_) (a' := ?_) #[true, true, true, true, true, true, true, true, false, false, false, false, false, false, false] rfl rfl (any_of HT_.out z13_) (fun _ _ _ h => h) (Or.inl ⟨by rfl, ?_⟩) ?_ ?_; rotate_left
                            · intro w'; go_simp; with_reducible rfl
                            rotate_left
                            · exact zp_
                            refine pure_ (i := 8) (N := some 26) (v := ?_) (a' := ?_) #[true, true, true, true, true, true, true, true, true, false, false, false, false, false, false] rfl rfl (any_of HT_.out z13_) (fun _ _ _ h => h) (Or.inl ⟨by rfl, ?_⟩) ?_ ?_; rotate_left
                            · intro w'; go_simp; with_reducible rfl
                            rotate_left
                            · exact zp_
                            refine pure_ (i := 10) (N := some 28) (v := ?_) (a' := ?_) #[true, true, true, true, true, true, true, true, true, false, true, false, false, false, false] rfl rfl (any_of HT_.out z13_) (fun _ _ _ h => h) (Or.inl ⟨by rfl, ?_⟩) ?_ ?_; rotate_left
                            · intro w'; go_simp; with_reducible rfl
                            rotate_left
                            · exact zp_
                            refine pure_ (i := 11) (N := some 29) (v := ?_) (a' := ?_) #[true, true, true, true, true, true, true, true, true, false, true, true, false, false, false] rfl rfl (any_of HT_.out z13_) (fun _ _ _ h => h) (Or.inl ⟨by rfl, ?_⟩) ?_ ?_; rotate_left
                            · intro w'; go_simp; with_reducible rfl
                            rotate_left
                            · exact zp_
                            refine take_ (i := 9) (N := some 27) (v := ?_) (a' := ?_) #[true, true, true, true, true, true, true, true, true, true, true, true, false, false, false] rfl rfl (take_ofW HT_.out HW_.out z13_) (fun _ _ _ h => h) (Or.inl ⟨by rfl, ?_⟩) hHeld ?_ ?_; rotate_left
                            · rintro w' ⟨s0, s1⟩; go_simp; with_reducible rfl
                            rotate_left
                            · exact zp_
                            refine pure_ (i := 12) (N := some 30) (v := ?_) (a' := ?_) #[true, true, true, true, true, true, true, true, true, true, true, true, true, false, false] rfl rfl (any_of HT_.out z13_) (fun _ _ _ h => h) (Or.inl ⟨by rfl, ?_⟩) ?_ ?_; rotate_left
                            · intro w'; go_simp; with_reducible rfl
                            rotate_left
                            · exact zp_
                            refine take_ (i := 13) (N := some 31) (v := ?_) (a' := ?_) #[true, true, true, true, true, true, true, true, true, true, true, true, true, true, false] rfl rfl (take_ofW HT_.out HW_.out z13_) (fun _ _ _ h => h) (Or.inl ⟨by rfl, ?_⟩) hHeld ?_ ?_; rotate_left
                            · rintro w' ⟨s0, s1⟩; go_simp; with_reducible rfl
                            rotate_left
                            · exact zp_
                            refine pure_ (i := 14) (N := some 8) (v := ?_) (a' := ?_) #[true, true, true, true, true, true, true, true, true, true, true, true, true, true, true] rfl rfl (any_of HT_.out z13_) (fun _ _ _ h => h) (Or.inl ⟨by rfl, ?_⟩) ?_ ?_; rotate_left
                            · intro w'; go_simp; with_reducible rfl
                            rotate_left
                            · exact zp_
                            refine done_ (done_of HT_.out z13_) ?_; (try go_wp2); go_roundg k1
                            case measure => have := HK1.out; omega
                            case rel => exact ⟨(Arr.vrd2 16 s0_0 (rd l1 x13_1) (rd l1 (ji7))), (wrap64 (x13_1 + 1)), (by first | rfl | (simp; done) | (simp only [← hji7] <;> (first | rfl | simp)) | (simp [*]; done)), z11_, H', ⟨z46_⟩, ⟨z7_⟩, ⟨z6_⟩, ⟨z5_⟩⟩
                          · rw [if_neg c17] at H; have c17b0 : decide (x5_1 < 0) = false := decide_eq_false c17; clear c17; by_cases c19 : (Arr.vrd2 16 s0_0 (rd l1 x13_1) (rd l1 (ji7))) < x5_1
                            · rw [if_pos c19] at H; have c19b0 : decide ((Arr.vrd2 16 s0_0 (rd l1 x13_1) (rd l1 (ji7))) < x5_1) = true := decide_eq_true c19; clear c19; have H' := A_ H; clear H; have p311 : 0 ≤ (x13_1 : Int) := of_decide_eq_true z3_; have q311 : x13_1 < (l1.length : Int) := of_decide_eq_true z3_; obtain ⟨ad311, e311, hx311_0⟩ := Kd.at_int HR1.out x13_1 p311 q311; cases e311; replace hx311_0 := keep_cell HK.out hx311_0 z61_; replace p311 := eq_true p311; replace q311 := eq_true q311; (try go_wp2); have n0_ := A_ (IsS70.drew HI0.out); have n1_ := A_ (keep_drew HK.out); have n2_ := A_ (below_drew1 HB.out); clear HI0; clear HK; clear HB; have HI0 := n0_; have HK := n1_; have HB := n2_; clear n0_ n1_ n2_; have p312 : 0 ≤ ((ji7) : Int) := of_decide_eq_true z3_; have q312 : (ji7) < (l1.length : Int) := of_decide_eq_true z3_; obtain ⟨ad312, e312, hx312_0⟩ := Kd.at_int HR1.out (ji7) p312 q312; have hw312_0 := hx312_0; obtain rfl : ad311 = ad312 := (by injection e312); have hne312_0 := (show ((ad311.add ((ji7)).toNat) : Addr).block ≠ g from z85_); replace hx312_0 := keep_cell HK.out hx312_0 z61_; replace p312 := eq_true p312; replace q312 := eq_true q312; have p12 : 0 ≤ ((rd l1 x13_1) : Int) := of_decide_eq_true z3_; have q12 : ((rd l1 x13_1) : Int) < 16 := of_decide_eq_true z3_; replace p12 := eq_true p12; replace q12 := eq_true q12; have p15 : 0 ≤ ((rd l1 (ji7)) : Int) := of_decide_eq_true z3_; have q15 : ((rd l1 (ji7)) : Int) < 16 := of_decide_eq_true z3_; replace p15 := eq_true p15; replace q15 := eq_true q15; refine start_ (n := 15) (S := fun w' => w'.cell? (ad311.add ((ji7)).toNat) = some (.int .i64 (rd l1 (ji7))) ∧ w'.cell? ⟨g, (rd l1 x13_1).toNat * 16 + (rd l1 (ji7)).toNat, none⟩ = some (.int .i64 (Arr.vrd2 16 s0_0 (rd l1 x13_1) (rd l1 (ji7))))) (ds := []) #[false, false, false, false, false, false, false, false, false, false, false, false, false, false, false] z13_ rfl rfl ⟨(keep_cell HK.out hw312_0 hne312_0), (Arr.cellN (off := 0) (l := (Arr.arL .i64 s0_0)) ((HI0.out).1) rfl ((rd l1 x13_1).toNat * 16 + (rd l1 (ji7)).toNat) ((rd l1 x13_1).toNat * 16 + (rd l1 (ji7)).toNat) (by omega) z83_)⟩ (fun hHeld => ?_); refine with_tabW impl_sums_cancel.tab5 impl_sums_cancel.bits5 (fun HT_ HW_ => ?_); generalize wr.drew = w20 at HI0 HK HB hx312_0 hHeld ⊢; refine pure_ (i := 0) (N := some 18) (v := ?_) (a' := ?_) #[true, false, false, false, false, false, false, false, false, false, false, false, false, false, false] rfl rfl (any_of HT_.out z13_) (fun _ _ _ h => h) (Or.inl ⟨by rfl, ?_⟩) ?_ ?_; rotate_left
                              · intro w'; go_simp; with_reducible rfl
                              rotate_left
                              · exact zp_
                              refine pure_ (i := 1) (N := some 19) (v := ?_) (a' := ?_) #[true, true, false, false, false, false, false, false, false, false, false, false, false, false, false] rfl rfl (any_of HT_.out z13_) (fun _ _ _ h => h) (Or.inl ⟨by rfl, ?_⟩) ?_ ?_; rotate_left
                              · intro w'; go_simp; with_reducible rfl
                              rotate_left
                              · exact zp_
                              refine pure_ (i := 2) (N := some 20) (v := ?_) (a' := ?_) #[true, true, true, false, false, false, false, false, false, false, false, false, false, false, false] rfl rfl (any_of HT_.out z13_) (fun _ _ _ h => h) (Or.inl ⟨by rfl, ?_⟩) ?_ ?_; rotate_left
                              · intro w'; go_simp; with_reducible rfl
                              rotate_left
                              · exact zp_
                              refine pure_ (i := 3) (N := some 21) (v := ?_) (a' := ?_) #[true, true, true, true, false, false, false, false, false, false, false, false, false, false, false] rfl rfl (any_of HT_.out z13_) (fun _ _ _ h => h) (Or.inl ⟨by rfl, ?_⟩) ?_ ?_; rotate_left
                              · intro w'; go_simp; with_reducible rfl
                              rotate_left
                              · exact zp_
                              refine pure_ (i := 4) (N := some 22) (v := ?_) (a' := ?_) #[true, true, true, true, true, false, false, false, false, false, false, false, false, false, false] rfl rfl (any_of HT_.out z13_) (fun _ _ _ h => h) (Or.inl ⟨by rfl, ?_⟩) ?_ ?_; rotate_left
                              · intro w'; go_simp; with_reducible rfl
                              rotate_left
                              · exact zp_
                              refine pure_ (i := 5) (N := some 23) (v := ?_) (a' := ?_) #[true, true, true, true, true, true, false, false, false, false, false, false, false, false, false] rfl rfl (any_of HT_.out z13_) (fun _ _ _ h => h) (Or.inl ⟨by rfl, ?_⟩) ?_ ?_; rotate_left
                              · intro w'; go_simp; with_reducible rfl
                              rotate_left
                              · exact zp_
                              refine pure_ (i := 6) (N := some 24) (v := ?_) (a' := ?_) #[true, true, true, true, true, true, true, false, false, false, false, false, false, false, false] rfl rfl (any_of HT_.out z13_) (fun _ _ _ h => h) (Or.inl ⟨by rfl, ?_⟩) ?_ ?_; rotate_left
                              · intro w'; go_simp; with_reducible rfl
                              rotate_left
                              · exact zp_
                              refine pure_ (i := 7) (N := some 25) (v := ?_) (a' := ?_) #[true, true, true, true, true, true, true, true, false, false, false, false, false, false, false] rfl rfl (any_of HT_.out z13_) (fun _ _ _ h => h) (Or.inl ⟨by rfl, ?_⟩) ?_ ?_; rotate_left
                              · intro w'; go_simp; with_reducible rfl
                              rotate_left
                              · exact zp_
                              refine pure_ (i := 8) (N := some 26) (v := ?_) (a' := ?_) #[true, true, true, true, true, true, true, true, true, false, false, false, false, false, false] rfl rfl (any_of HT_.out z13_) (fun _ _ _ h => h) (Or.inl ⟨by rfl, ?_⟩) ?_ ?_; rotate_left
                              · intro w'; go_simp; with_reducible rfl
                              rotate_left
                              · exact zp_
                              refine pure_ (i := 10) (N := some 28) (v := ?_) (a' := ?_) #[true, true, true, true, true, true, true, true, true, false, true, false, false, false, false] rfl rfl (any_of HT_.out z13_) (fun _ _ _ h => h) (Or.inl ⟨by rfl, ?_⟩) ?_ ?_; rotate_left
                              · intro w'; go_simp; with_reducible rfl
                              rotate_left
                              · exact zp_
                              refine pure_ (i := 11) (N := some 29) (v := ?_) (a' := ?_) #[true, true, true, true, true, true, true, true, true, false, true, true, false, false, false] rfl rfl (any_of HT_.out z13_) (fun _ _ _ h => h) (Or.inl ⟨by rfl, ?_⟩) ?_ ?_; rotate_left
                              · intro w'; go_simp; with_reducible rfl
                              rotate_left
                              · exact zp_
                              refine take_ (i := 9) (N := some 27) (v := ?_) (a' := ?_) #[true, true, true, true, true, true, true, true, true, true, true, true, false, false, false] rfl rfl (take_ofW HT_.out HW_.out z13_) (fun _ _ _ h => h) (Or.inl ⟨by rfl, ?_⟩) hHeld ?_ ?_; rotate_left
                              · rintro w' ⟨s0, s1⟩; go_simp; with_reducible rfl
                              rotate_left
                              · exact zp_
                              refine pure_ (i := 12) (N := some 30) (v := ?_) (a' := ?_) #[true, true, true, true, true, true, true, true, true, true, true, true, true, false, false] rfl rfl (any_of HT_.out z13_) (fun _ _ _ h => h) (Or.inl ⟨by rfl, ?_⟩) ?_ ?_; rotate_left
                              · intro w'; go_simp; with_reducible rfl
                              rotate_left
                              · exact zp_
                              refine take_ (i := 13) (N := some 31) (v := ?_) (a' := ?_) #[true, true, true, true, true, true, true, true, true, true, true, true, true, true, false] rfl rfl (take_ofW HT_.out HW_.out z13_) (fun _ _ _ h => h) (Or.inl ⟨by rfl, ?_⟩) hHeld ?_ ?_; rotate_left
                              · rintro w' ⟨s0, s1⟩; go_simp; with_reducible rfl
                              rotate_left
                              · exact zp_
                              refine pure_ (i := 14) (N := some 8) (v := ?_) (a' := ?_) #[true, true, true, true, true, true, true, true, true, true, true, true, true, true, true] rfl rfl (any_of HT_.out z13_) (fun _ _ _ h => h) (Or.inl ⟨by rfl, ?_⟩) ?_ ?_; rotate_left
                              · intro w'; go_simp; with_reducible rfl
                              rotate_left
                              · exact zp_
                              refine done_ (done_of HT_.out z13_) ?_; (try go_wp2); go_roundg k1
                              case measure => have := HK1.out; omega
                              case rel => exact ⟨(Arr.vrd2 16 s0_0 (rd l1 x13_1) (rd l1 (ji7))), (wrap64 (x13_1 + 1)), (by first | rfl | (simp; done) | (simp only [← hji7] <;> (first | rfl | simp)) | (simp [*]; done)), z11_, H', ⟨z46_⟩, ⟨z7_⟩, ⟨z6_⟩, ⟨z5_⟩⟩
                            · rw [if_neg c19] at H; have c19b0 : decide ((Arr.vrd2 16 s0_0 (rd l1 x13_1) (rd l1 (ji7))) < x5_1) = false := decide_eq_false c19; clear c19; have H' := A_ H; clear H; have p311 : 0 ≤ (x13_1 : Int) := of_decide_eq_true z3_; have q311 : x13_1 < (l1.length : Int) := of_decide_eq_true z3_; obtain ⟨ad311, e311, hx311_0⟩ := Kd.at_int HR1.out x13_1 p311 q311; cases e311; replace hx311_0 := keep_cell HK.out hx311_0 z61_; replace p311 := eq_true p311; replace q311 := eq_true q311; (try go_wp2); have n0_ := A_ (IsS70.drew HI0.out); have n1_ := A_ (keep_drew HK.out); have n2_ := A_ (below_drew1 HB.out); clear HI0; clear HK; clear HB; have HI0 := n0_; have HK := n1_; have HB := n2_; clear n0_ n1_ n2_; have p312 : 0 ≤ ((ji7) : Int) := of_decide_eq_true z3_; have q312 : (ji7) < (l1.length : Int) := of_decide_eq_true z3_; obtain ⟨ad312, e312, hx312_0⟩ := Kd.at_int HR1.out (ji7) p312 q312; have hw312_0 := hx312_0; obtain rfl : ad311 = ad312 := (by injection e312); have hne312_0 := (show ((ad311.add ((ji7)).toNat) : Addr).block ≠ g from z85_); replace hx312_0 := keep_cell HK.out hx312_0 z61_; replace p312 := eq_true p312; replace q312 := eq_true q312; have p12 : 0 ≤ ((rd l1 x13_1) : Int) := of_decide_eq_true z3_; have q12 : ((rd l1 x13_1) : Int) < 16 := of_decide_eq_true z3_; replace p12 := eq_true p12; replace q12 := eq_true q12; have p15 : 0 ≤ ((rd l1 (ji7)) : Int) := of_decide_eq_true z3_; have q15 : ((rd l1 (ji7)) : Int) < 16 := of_decide_eq_true z3_; replace p15 := eq_true p15; replace q15 := eq_true q15; refine start_ (n := 15) (S := fun w' => w'.cell? (ad311.add ((ji7)).toNat) = some (.int .i64 (rd l1 (ji7))) ∧ w'.cell? ⟨g, (rd l1 x13_1).toNat * 16 + (rd l1 (ji7)).toNat, none⟩ = some (.int .i64 (Arr.vrd2 16 s0_0 (rd l1 x13_1) (rd l1 (ji7))))) (ds := []) #[false, false, false, false, false, false, false, false, false, false, false, false, false, false, false] z13_ rfl rfl ⟨(keep_cell HK.out hw312_0 hne312_0), (Arr.cellN (off := 0) (l := (Arr.arL .i64 s0_0)) ((HI0.out).1) rfl ((rd l1 x13_1).toNat * 16 + (rd l1 (ji7)).toNat) ((rd l1 x13_1).toNat * 16 + (rd l1 (ji7)).toNat) (by omega) z83_)⟩ (fun hHeld => ?_); refine with_tabW impl_sums_cancel.tab5 impl_sums_cancel.bits5 (fun HT_ HW_ => ?_); generalize wr.drew = w21 at HI0 HK HB hx312_0 hHeld ⊢; refine pure_ (i := 0) (N := some 18) (v := ?_) (a' := ?_) #[true, false, false, false, false, false, false, false, false, false, false, false, false, false, false] rfl rfl (any_of HT_.out z13_) (fun _ _ _ h => h) (Or.inl ⟨by rfl, ?_⟩) ?_ ?_; rotate_left
                              · intro w'; go_simp; with_reducible rfl
                              rotate_left
                              · exact zp_
                              refine pure_ (i := 1) (N := some 19) (v := ?_) (a' := ?_) #[true, true, false, false, false, false, false, false, false, false, false, false, false, false, false] rfl rfl (any_of HT_.out z13_) (fun _ _ _ h => h) (Or.inl ⟨by rfl, ?_⟩) ?_ ?_; rotate_left
                              · intro w'; go_simp; with_reducible rfl
                              rotate_left
                              · exact zp_
                              refine pure_ (i := 2) (N := some 20) (v := ?_) (a' := ?_) #[true, true, true, false, false, false, false, false, false, false, false, false, false, false, false] rfl rfl (any_of HT_.out z13_) (fun _ _ _ h => h) (Or.inl ⟨by rfl, ?_⟩) ?_ ?_; rotate_left
                              · intro w'; go_simp; with_reducible rfl
                              rotate_left
                              · exact zp_
                              refine pure_ (i := 3) (N := some 21) (v := ?_) (a' := ?_) #[true, true, true, true, false, false, false, false, false, false, false, false, false, false, false] rfl rfl (any_of HT_.out z13_) (fun _ _ _ h => h) (Or.inl ⟨by rfl, ?_⟩) ?_ ?_; rotate_left
                              · intro w'; go_simp; with_reducible rfl
                              rotate_left
                              · exact zp_
                              refine pure_ (i := 4) (N := some 22) (v := ?_) (a' := ?_) #[true, true, true, true, true, false, false, false, false, false, false, false, false, false, false] rfl rfl (any_of HT_.out z13_) (fun _ _ _ h => h) (Or.inl ⟨by rfl, ?_⟩) ?_ ?_; rotate_left
                              · intro w'; go_simp; with_reducible rfl
                              rotate_left
                              · exact zp_
                              refine pure_ (i := 5) (N := some 23) (v := ?_) (a' := ?_) #[true, true, true, true, true, true, false, false, false, false, false, false, false, false, false] rfl rfl (any_of HT_.out z13_) (fun _ _ _ h => h) (Or.inl ⟨by rfl, ?_⟩) ?_ ?_; rotate_left
                              · intro w'; go_simp; with_reducible rfl
                              rotate_left
                              · exact zp_
                              refine pure_ (i := 6) (N := some 24) (v := ?_) (a' := ?_) #[true, true, true, true, true, true, true, false, false, false, false, false, false, false, false] rfl rfl (any_of HT_.out z13_) (fun _ _ _ h => h) (Or.inl ⟨by rfl, ?_⟩) ?_ ?_; rotate_left
                              · intro w'; go_simp; with_reducible rfl
                              rotate_left
                              · exact zp_
                              refine pure_ (i := 7) (N := some 25) (v := ?_) (a' := ?_) #[true, true, true, true, true, true, true, true, false, false, false, false, false, false, false] rfl rfl (any_of HT_.out z13_) (fun _ _ _ h => h) (Or.inl ⟨by rfl, ?_⟩) ?_ ?_; rotate_left
                              · intro w'; go_simp; with_reducible rfl
                              rotate_left
                              · exact zp_
                              refine pure_ (i := 8) (N := some 26) (v := ?_) (a' := ?_) #[true, true, true, true, true, true, true, true, true, false, false, false, false, false, false] rfl rfl (any_of HT_.out z13_) (fun _ _ _ h => h) (Or.inl ⟨by rfl, ?_⟩) ?_ ?_; rotate_left
                              · intro w'; go_simp; with_reducible rfl
                              rotate_left
                              · exact zp_
                              refine pure_ (i := 10) (N := some 28) (v := ?_) (a' := ?_) #[true, true, true, true, true, true, true, true, true, false, true, false, false, false, false] rfl rfl (any_of HT_.out z13_) (fun _ _ _ h => h) (Or.inl ⟨by rfl, ?_⟩) ?_ ?_; rotate_left
                              · intro w'; go_simp; with_reducible rfl
                              rotate_left
                              · exact zp_
                              refine pure_ (i := 11) (N := some 29) (v := ?_) (a' := ?_) #[true, true, true, true, true, true, true, true, true, false, true, true, false, false, false] rfl rfl (any_of HT_.out z13_) (fun _ _ _ h => h) (Or.inl ⟨by rfl, ?_⟩) ?_ ?_; rotate_left
                              · intro w'; go_simp; with_reducible rfl
                              rotate_left
                              · exact zp_
                              refine take_ (i := 9) (N := some 27) (v := ?_) (a' := ?_) #[true, true, true, true, true, true, true, true, true, true, true, true, false, false, false] rfl rfl (take_ofW HT_.out HW_.out z13_) (fun _ _ _ h => h) (Or.inl ⟨by rfl, ?_⟩) hHeld ?_ ?_; rotate_left
                              · rintro w' ⟨s0, s1⟩; go_simp; with_reducible rfl
                              rotate_left
                              · exact zp_
                              refine pure_ (i := 12) (N := some 30) (v := ?_) (a' := ?_) #[true, true, true, true, true, true, true, true, true, true, true, true, true, false, false] rfl rfl (any_of HT_.out z13_) (fun _ _ _ h => h) (Or.inl ⟨by rfl, ?_⟩) ?_ ?_; rotate_left
                              · intro w'; go_simp; with_reducible rfl
                              rotate_left
                              · exact zp_
                              refine take_ (i := 13) (N := some 31) (v := ?_) (a' := ?_) #[true, true, true, true, true, true, true, true, true, true, true, true, true, true, false] rfl rfl (take_ofW HT_.out HW_.out z13_) (fun _ _ _ h => h) (Or.inl ⟨by rfl, ?_⟩) hHeld ?_ ?_; rotate_left
                              · rintro w' ⟨s0, s1⟩; go_simp; with_reducible rfl
                              rotate_left
                              · exact zp_
                              refine pure_ (i := 14) (N := some 8) (v := ?_) (a' := ?_) #[true, true, true, true, true, true, true, true, true, true, true, true, true, true, true] rfl rfl (any_of HT_.out z13_) (fun _ _ _ h => h) (Or.inl ⟨by rfl, ?_⟩) ?_ ?_; rotate_left
                              · intro w'; go_simp; with_reducible rfl
                              rotate_left
                              · exact zp_
                              refine done_ (done_of HT_.out z13_) ?_; (try go_wp2); go_roundg k1
                              case measure => have := HK1.out; omega
                              case rel => exact ⟨(x5_1), (wrap64 (x13_1 + 1)), z11_, z11_, H', ⟨z46_⟩, ⟨z7_⟩, ⟨z6_⟩, ⟨z5_⟩⟩
                        · rw [if_neg c14] at H; exact absurd H (by simp)
                      · rw [if_neg c13] at H; exact absurd H (by simp)
                    · rw [if_neg c11] at H; exact absurd H (by simp)
                  · rw [if_neg c10] at H; exact absurd H (by simp)
                · rw [if_neg c9] at H; exact absurd H (by simp)
              · rw [if_neg c8] at H; exact absurd H (by simp)
          · rw [if_neg c5] at H; exact absurd H (by simp)
        · rw [if_neg c4] at H; exact absurd H (by simp)
      · rw [if_neg c3] at H; have c3b0 : decide (x13_1 < (l1.length : Int)) = false := decide_eq_false c3; clear c3; have H' := A_ H; clear H; go_wp2; go_loopg [43] k1 (fun kq v43 w' => ∃ (x43_2 : Int) (x1000_2 : Vector Int 256), v43 = .int .i64 x43_2 ∧ Aside0 (impl_sums_cancel.l1 kq l1 x5_1 l1 (l1.length : Int) x43_2 x1000_2 = some (r1, r2)) ∧ Aside0 (kq ≤ k1) ∧ Aside0 (IsS70 w0 w' g x1000_2) ∧ Aside0 (KeepBut w w' g none) ∧ Aside0 (Below w0.heap.size w0 w'))
        case atStart => exact ⟨(0), (s0_0), z11_, H', ⟨Nat.le_refl _⟩, ⟨z7_⟩, ⟨z6_⟩, ⟨z5_⟩⟩
        case round =>
          clear H'; (try clear c1); (try clear p1); (try clear q1); (try clear p2); (try clear c3); (try clear c3b0); (try clear p3); (try clear q3); (try clear hx3); (try clear c4); (try clear c4b0); (try clear c5); (try clear c5b0); (try clear c6); (try clear c6b0); (try clear c6b1); (try clear c6b2); (try clear p6); (try clear c7); (try clear c8); (try clear c8b0); (try clear c9); (try clear c9b0); (try clear c10); (try clear c10b0); (try clear c11); (try clear c11b0); (try clear p12); (try clear q12); (try clear c13); (try clear c13b0); (try clear c14); (try clear c14b0); (try clear p15); (try clear q15); (try clear c17); (try clear c17b0); (try clear c19); (try clear c19b0); (try clear hx311_0); (try clear hx312_0); (try clear p12); (try clear p15); (try clear p2); (try clear p311); (try clear p312); (try clear q12); (try clear q15); (try clear q311); (try clear q312); obtain ⟨x43_2, x1000_2, rfl, HA, HK2, HI0, HK, HB⟩ := hrel
          cases gk with
          | zero => exact absurd HA.out (by simp [impl_sums_cancel.l1])
          | succ k2 =>
            have H := HA.out; clear HA; simp only [impl_sums_cancel.l1] at H; by_cases c22 : x43_2 < (l1.length : Int)
            · rw [if_pos c22] at H; have c22b0 : decide (x43_2 < (l1.length : Int)) = true := decide_eq_true c22; clear c22; by_cases c23 : 0 ≤ x43_2
              · rw [if_pos c23] at H; have c23b0 : decide (0 ≤ x43_2) = true := decide_eq_true c23; clear c23; by_cases c24 : x43_2 < (l1.length : Int)
                · rw [if_pos c24] at H; have c24b0 : decide (x43_2 < (l1.length : Int)) = true := decide_eq_true c24; clear c24; by_cases c25 : (l1.length : Int) = 0
                  · rw [if_pos c25] at H; exact absurd H (by simp)
                  · rw [if_neg c25] at H; have c25b0 : ((l1.length : Int) == 0) = false := beq_eq_false_iff_ne.mpr c25; have c25b1 : ((l1.length : Int) != 0) = true := bne_iff_ne.mpr c25; (have c25b2 : ¬ (l1 = []) := fun h_ => c25 (by rw [h_]; rfl)); obtain ⟨ji26, hji26⟩ : ∃ j_ : Int, (Int.tmod (wrap64 (x43_2 + 1)) (l1.length : Int)) = j_ := ⟨_, rfl⟩; (replace H : (if 0 ≤ (ji26) then (if (ji26) < (l1.length : Int) then (if 0 ≤ (rd l1 x43_2) then (if (rd l1 x43_2) < 16 then (if 0 ≤ (rd l1 (ji26)) then (if (rd l1 (ji26)) < 16 then (impl_sums_cancel.l1 k2 l1 x5_1 l1 (l1.length : Int) (wrap64 (x43_2 + 1)) (Arr.vst2 16 x1000_2 (rd l1 x43_2) (rd l1 (ji26)) (wrap64 ((Arr.vrd2 16 x1000_2 (rd l1 x43_2) (rd l1 (ji26))) - x5_1)))) else (none)) else (none)) else (none)) else (none)) else (none)) else (none)) = some (r1, r2) := by first | (rw [hji26] at H; exact H) | (simp only [hji26] at H ⊢; exact H)); by_cases c27 : 0 ≤ (ji26)
                    · rw [if_pos c27] at H; have c27b0 : decide (0 ≤ (ji26)) = true := decide_eq_true c27; clear c27; by_cases c28 : (ji26) < (l1.length : Int)
                      · rw [if_pos c28] at H; have c28b0 : decide ((ji26) < (l1.length : Int)) = true := decide_eq_true c28; clear c28; by_cases c29 : 0 ≤ (rd l1 x43_2)
                        · rw [if_pos c29] at H; have c29b0 : decide (0 ≤ (rd l1 x43_2)) = true := decide_eq_true c29; clear c29; by_cases c30 : (rd l1 x43_2) < 16
                          · rw [if_pos c30] at H; have c30b0 : decide ((rd l1 x43_2) < 16) = true := decide_eq_true c30; clear c30; by_cases c32 : 0 ≤ (rd l1 (ji26))
                            · rw [if_pos c32] at H; have c32b0 : decide (0 ≤ (rd l1 (ji26))) = true := decide_eq_true c32; clear c32; by_cases c33 : (rd l1 (ji26)) < 16
                              · rw [if_pos c33] at H; have c33b0 : decide ((rd l1 (ji26)) < 16) = true := decide_eq_true c33; clear c33; obtain ⟨y315, hy315⟩ : ∃ y_ : Vector Int 256, y_ = (Arr.vst2 16 x1000_2 (rd l1 x43_2) (rd l1 (ji26)) (wrap64 ((Arr.vrd2 16 x1000_2 (rd l1 x43_2) (rd l1 (ji26))) - x5_1))) := ⟨_, rfl⟩; (replace H : (impl_sums_cancel.l1 k2 l1 x5_1 l1 (l1.length : Int) (wrap64 (x43_2 + 1)) y315) = some (r1, r2) := by first | (rw [hy315]; with_reducible exact H) | (have H2_ := (Option.bind_some _ _).symm.trans H; rw [hy315]; with_reducible exact H2_) | (have H2_ := (Option.bind_some _ _).symm.trans H; with_reducible exact H2_) | with_reducible exact H | (rw [hy315]; exact H) | exact H); have Ny315 := A_ hy315; clear hy315; have H' := A_ H; clear H; have p313 : 0 ≤ (x43_2 : Int) := of_decide_eq_true z3_; have q313 : x43_2 < (l1.length : Int) := of_decide_eq_true z3_; obtain ⟨ad313, e313, hx313_0⟩ := Kd.at_int HR1.out x43_2 p313 q313; cases e313; replace hx313_0 := keep_cell HK.out hx313_0 (by first | (rw [add_block]; exact hf1 _ rfl (by omega)) | exact hf1 _ rfl (by omega) | exact hf1 ad313 rfl (by omega)); replace p313 := eq_true p313; replace q313 := eq_true q313; (try go_wp2); have n0_ := A_ (IsS70.drew HI0.out); have n1_ := A_ (keep_drew HK.out); have n2_ := A_ (below_drew1 HB.out); clear HI0; clear HK; clear HB; have HI0 := n0_; have HK := n1_; have HB := n2_; clear n0_ n1_ n2_; have p314 : 0 ≤ ((ji26) : Int) := of_decide_eq_true z3_; have q314 : (ji26) < (l1.length : Int) := of_decide_eq_true z3_; obtain ⟨ad314, e314, hx314_0⟩ := Kd.at_int HR1.out (ji26) p314 q314; have hw314_0 := hx314_0; obtain rfl : ad313 = ad314 := (by injection e314); have hne314_0 := (show ((ad313.add ((ji26)).toNat) : Addr).block ≠ g from by first | (rw [add_block]; exact hf1 ad313 rfl (by omega)) | (show (Addr.add _ _).block ≠ _; rw [add_block]; exact hf1 ad313 rfl (by omega)) | exact hf1 ad313 rfl (by omega)); replace hx314_0 := keep_cell HK.out hx314_0 (by first | (rw [add_block]; exact hf1 _ rfl (by omega)) | exact hf1 _ rfl (by omega) | exact hf1 ad313 rfl (by omega)); replace p314 := eq_true p314; replace q314 := eq_true q314; have p31 : 0 ≤ ((rd l1 x43_2) : Int) := of_decide_eq_true z3_; have q31 : ((rd l1 x43_2) : Int) < 16 := of_decide_eq_true z3_; replace p31 := eq_true p31; replace q31 := eq_true q31; have p34 : 0 ≤ ((rd l1 (ji26)) : Int) := of_decide_eq_true z3_; have q34 : ((rd l1 (ji26)) : Int) < 16 := of_decide_eq_true z3_; replace p34 := eq_true p34; replace q34 := eq_true q34; have p36 : 0 ≤ ((rd l1 x43_2) : Int) := of_decide_eq_true z3_; have q36 : ((rd l1 x43_2) : Int) < 16 := of_decide_eq_true z3_; replace p36 := eq_true p36; replace q36 := eq_true q36; have p37 : 0 ≤ ((rd l1 (ji26)) : Int) := of_decide_eq_true z3_; have q37 : ((rd l1 (ji26)) : Int) < 16 := of_decide_eq_true z3_; replace p37 := eq_true p37; replace q37 := eq_true q37; refine start_ (n := 20) (S := fun w' => w'.cell? (ad313.add ((ji26)).toNat) = some (.int .i64 (rd l1 (ji26))) ∧ w'.cell? ⟨g, (rd l1 x43_2).toNat * 16 + (rd l1 (ji26)).toNat, none⟩ = some (.int .i64 (Arr.vrd2 16 x1000_2 (rd l1 x43_2) (rd l1 (ji26))))) (ds := [19]) #[false, false, false, false, false, false, false, false, false, false, false, false, false, false, false, false, false, false, false, false] z13_ rfl rfl ⟨(keep_cell HK.out hw314_0 hne314_0), (Arr.cellN (off := 0) (l := (Arr.arL .i64 x1000_2)) ((HI0.out).1) rfl ((rd l1 x43_2).toNat * 16 + (rd l1 (ji26)).toNat) ((rd l1 x43_2).toNat * 16 + (rd l1 (ji26)).toNat) (by omega) (by have a0_ := of_eq_true p31; have b0_ := of_eq_true q31; have a1_ := of_eq_true p34; have b1_ := of_eq_true q34; omega))⟩ (fun hHeld => ?_); refine with_tabW impl_sums_cancel.tab12 impl_sums_cancel.bits12 (fun HT_ HW_ => ?_); generalize wr.drew = w39 at HI0 HK HB hx314_0 hHeld ⊢; refine pure_ (i := 0) (N := some 48) (v := ?_) (a' := ?_) #[true, false, false, false, false, false, false, false, false, false, false, false, false, false, false, false, false, false, false, false] rfl rfl (any_of HT_.out z13_) (fun _ _ _ h => h) (Or.inl ⟨by rfl, ?_⟩) ?_ ?_; rotate_left
                                · intro w'; go_simp; with_reducible rfl
                                rotate_left
                                · exact zp_
                                refine pure_ (i := 1) (N := some 49) (v := ?_) (a' := ?_) #[true, true, false, false, false, false, false, false, false, false, false, false, false, false, false, false, false, false, false, false] rfl rfl (any_of HT_.out z13_) (fun _ _ _ h => h) (Or.inl ⟨by rfl, ?_⟩) ?_ ?_; rotate_left
                                · intro w'; go_simp; with_reducible rfl
                                rotate_left
                                · exact zp_
                                refine pure_ (i := 2) (N := some 50) (v := ?_) (a' := ?_) #[true, true, true, false, false, false, false, false, false, false, false, false, false, false, false, false, false, false, false, false] rfl rfl (any_of HT_.out z13_) (fun _ _ _ h => h) (Or.inl ⟨by rfl, ?_⟩) ?_ ?_; rotate_left
                                · intro w'; go_simp; with_reducible rfl
                                rotate_left
                                · exact zp_
                                refine pure_ (i := 3) (N := some 51) (v := ?_) (a' := ?_) #[true, true, true, true, false, false, false, false, false, false, false, false, false, false, false, false, false, false, false, false] rfl rfl (any_of HT_.out z13_) (fun _ _ _ h => h) (Or.inl ⟨by rfl, ?_⟩) ?_ ?_; rotate_left
                                · intro w'; go_simp; with_reducible rfl
                                rotate_left
                                · exact zp_
                                refine pure_ (i := 4) (N := some 52) (v := ?_) (a' := ?_) #[true, true, true, true, true, false, false, false, false, false, false, false, false, false, false, false, false, false, false, false] rfl rfl (any_of HT_.out z13_) (fun _ _ _ h => h) (Or.inl ⟨by rfl, ?_⟩) ?_ ?_; rotate_left
                                · intro w'; go_simp; with_reducible rfl
                                rotate_left
                                · exact zp_
                                refine pure_ (i := 5) (N := some 53) (v := ?_) (a' := ?_) #[true, true, true, true, true, true, false, false, false, false, false, false, false, false, false, false, false, false, false, false] rfl rfl (any_of HT_.out z13_) (fun _ _ _ h => h) (Or.inl ⟨by rfl, ?_⟩) ?_ ?_; rotate_left
                                · intro w'; go_simp; with_reducible rfl
                                rotate_left
                                · exact zp_
                                refine pure_ (i := 6) (N := some 54) (v := ?_) (a' := ?_) #[true, true, true, true, true, true, true, false, false, false, false, false, false, false, false, false, false, false, false, false] rfl rfl (any_of HT_.out z13_) (fun _ _ _ h => h) (Or.inl ⟨by rfl, ?_⟩) ?_ ?_; rotate_left
                                · intro w'; go_simp; with_reducible rfl
                                rotate_left
                                · exact zp_
                                refine pure_ (i := 7) (N := some 55) (v := ?_) (a' := ?_) #[true, true, true, true, true, true, true, true, false, false, false, false, false, false, false, false, false, false, false, false] rfl rfl (any_of HT_.out z13_) (fun _ _ _ h => h) (Or.inl ⟨by rfl, ?_⟩) ?_ ?_; rotate_left
                                · intro w'; go_simp; with_reducible rfl
                                rotate_left
                                · exact zp_
                                refine pure_ (i := 8) (N := some 56) (v := ?_) (a' := ?_) #[true, true, true, true, true, true, true, true, true, false, false, false, false, false, false, false, false, false, false, false] rfl rfl (any_of HT_.out z13_) (fun _ _ _ h => h) (Or.inl ⟨by rfl, ?_⟩) ?_ ?_; rotate_left
                                · intro w'; go_simp; with_reducible rfl
                                rotate_left
                                · exact zp_
                                refine pure_ (i := 10) (N := some 58) (v := ?_) (a' := ?_) #[true, true, true, true, true, true, true, true, true, false, true, false, false, false, false, false, false, false, false, false] rfl rfl (any_of HT_.out z13_) (fun _ _ _ h => h) (Or.inl ⟨by rfl, ?_⟩) ?_ ?_; rotate_left
                                · intro w'; go_simp; with_reducible rfl
                                rotate_left
                                · exact zp_
                                refine pure_ (i := 11) (N := some 59) (v := ?_) (a' := ?_) #[true, true, true, true, true, true, true, true, true, false, true, true, false, false, false, false, false, false, false, false] rfl rfl (any_of HT_.out z13_) (fun _ _ _ h => h) (Or.inl ⟨by rfl, ?_⟩) ?_ ?_; rotate_left
                                · intro w'; go_simp; with_reducible rfl
                                rotate_left
                                · exact zp_
                                refine pure_ (i := 14) (N := some 62) (v := ?_) (a' := ?_) #[true, true, true, true, true, true, true, true, true, false, true, true, false, false, true, false, false, false, false, false] rfl rfl (any_of HT_.out z13_) (fun _ _ _ h => h) (Or.inl ⟨by rfl, ?_⟩) ?_ ?_; rotate_left
                                · intro w'; go_simp; with_reducible rfl
                                rotate_left
                                · exact zp_
                                refine pure_ (i := 16) (N := some 64) (v := ?_) (a' := ?_) #[true, true, true, true, true, true, true, true, true, false, true, true, false, false, true, false, true, false, false, false] rfl rfl (any_of HT_.out z13_) (fun _ _ _ h => h) (Or.inl ⟨by rfl, ?_⟩) ?_ ?_; rotate_left
                                · intro w'; go_simp; with_reducible rfl
                                rotate_left
                                · exact zp_
                                refine pure_ (i := 17) (N := some 65) (v := ?_) (a' := ?_) #[true, true, true, true, true, true, true, true, true, false, true, true, false, false, true, false, true, true, false, false] rfl rfl (any_of HT_.out z13_) (fun _ _ _ h => h) (Or.inl ⟨by rfl, ?_⟩) ?_ ?_; rotate_left
                                · intro w'; go_simp; with_reducible rfl
                                rotate_left
                                · exact zp_
                                refine take_ (i := 9) (N := some 57) (v := ?_) (a' := ?_) #[true, true, true, true, true, true, true, true, true, true, true, true, false, false, true, false, true, true, false, false] rfl rfl (take_ofW HT_.out HW_.out z13_) (fun _ _ _ h => h) (Or.inl ⟨by rfl, ?_⟩) hHeld ?_ ?_; rotate_left
                                · rintro w' ⟨s0, s1⟩; go_simp; with_reducible rfl
                                rotate_left
                                · exact zp_
                                refine pure_ (i := 12) (N := some 60) (v := ?_) (a' := ?_) #[true, true, true, true, true, true, true, true, true, true, true, true, true, false, true, false, true, true, false, false] rfl rfl (any_of HT_.out z13_) (fun _ _ _ h => h) (Or.inl ⟨by rfl, ?_⟩) ?_ ?_; rotate_left
                                · intro w'; go_simp; with_reducible rfl
                                rotate_left
                                · exact zp_
                                refine take_ (i := 13) (N := some 61) (v := ?_) (a' := ?_) #[true, true, true, true, true, true, true, true, true, true, true, true, true, true, true, false, true, true, false, false] rfl rfl (take_ofW HT_.out HW_.out z13_) (fun _ _ _ h => h) (Or.inl ⟨by rfl, ?_⟩) hHeld ?_ ?_; rotate_left
                                · rintro w' ⟨s0, s1⟩; go_simp; with_reducible rfl
                                rotate_left
                                · exact zp_
                                refine pure_ (i := 15) (N := some 63) (v := ?_) (a' := ?_) #[true, true, true, true, true, true, true, true, true, true, true, true, true, true, true, true, true, true, false, false] rfl rfl (any_of HT_.out z13_) (fun _ _ _ h => h) (Or.inl ⟨by rfl, ?_⟩) ?_ ?_; rotate_left
                                · intro w'; go_simp; with_reducible rfl
                                rotate_left
                                · exact zp_
                                refine pure_ (i := 18) (N := some 66) (v := ?_) (a' := ?_) #[true, true, true, true, true, true, true, true, true, true, true, true, true, true, true, true, true, true, true, false] rfl rfl (any_of HT_.out z13_) (fun _ _ _ h => h) (Or.inl ⟨by rfl, ?_⟩) ?_ ?_; rotate_left
                                · intro w'; go_simp; with_reducible rfl
                                rotate_left
                                · exact zp_
                                refine last_ (i := 19) (N := none) #[true, true, true, true, true, true, true, true, true, true, true, true, true, true, true, true, true, true, true, true] rfl rfl (one_of HT_.out z13_) (by decide) (fun K hK => ?_); have hx38 : w39.cell? ⟨g, (rd l1 x43_2).toNat * 16 + (rd l1 (ji26)).toNat, none⟩ = some (.int .i64 (Arr.vrd2 16 x1000_2 (rd l1 x43_2) (rd l1 (ji26)))) := Arr.cellN (off := 0) (l := (Arr.arL .i64 x1000_2)) ((show IsS70 w0 w39 g x1000_2 from z7_).1) rfl ((rd l1 x43_2).toNat * 16 + (rd l1 (ji26)).toNat) ((rd l1 x43_2).toNat * 16 + (rd l1 (ji26)).toNat) (by omega) (by have a0_ := of_eq_true p36; have b0_ := of_eq_true q36; have a1_ := of_eq_true p37; have b1_ := of_eq_true q37; omega); have hf38 := blk_frozen ((show IsS70 w0 w39 g x1000_2 from z7_).1) ((rd l1 x43_2).toNat * 16 + (rd l1 (ji26)).toNat); refine skip_ (w1 := w39.setCell ⟨g, (rd l1 x43_2).toNat * 16 + (rd l1 (ji26)).toNat, none⟩ (.int .i64 (wrap64 ((Arr.vrd2 16 x1000_2 (rd l1 x43_2) (rd l1 (ji26))) - x5_1)))) (by rfl) rfl ?_ ?_
                                · first | (go_simp; done) | (go_simp; rfl)
                                refine hK.out _ _ ?_; clear hK K; refine done_ (done_of HT_.out z13_) ?_; obtain ⟨w40, hw_, hbx, hg, hbe⟩ := Arr.stored_at (g := g) (off := 0) (m := (rd l1 x43_2).toNat * 16 + (rd l1 (ji26)).toNat) (n := (rd l1 x43_2).toNat * 16 + (rd l1 (ji26)).toNat) (k := .i64) (y := (wrap64 ((Arr.vrd2 16 x1000_2 (rd l1 x43_2) (rd l1 (ji26))) - x5_1))) (x := x1000_2) (t := 70) (pre := []) ((show IsS70 w0 w39 g x1000_2 from z7_).1) rfl (by omega); rw [hw_]; clear hw_; replace hbx : w40.heap[g]? = some (.cells (⟨Arr.arL .i64 y315⟩ : Array Value) 70 (0, 0)) := (by rw [Ny315.out]; exact hbx); have n0_ := A_ ((⟨hbx, (HI0.out).2⟩ : IsS70 w0 w40 g y315)); have n1_ := A_ (Arr.keep_self z6_ hg); have n2_ := A_ (hbe _ _ z5_ (IsS70.ge HI0.out)); clear HI0; clear HK; clear HB; have HI0 := n0_; have HK := n1_; have HB := n2_; clear n0_ n1_ n2_; (try clear hbx hg hbe); (try go_wp2); go_roundg k2
                                case measure => have := HK1.out; have := HK2.out; omega
                                case rel => exact ⟨(wrap64 (x43_2 + 1)), (y315), z11_, H', ⟨z93_⟩, ⟨z7_⟩, ⟨z6_⟩, ⟨z5_⟩⟩
                              · rw [if_neg c33] at H; exact absurd H (by simp)
                            · rw [if_neg c32] at H; exact absurd H (by simp)
                          · rw [if_neg c30] at H; exact absurd H (by simp)
                        · rw [if_neg c29] at H; exact absurd H (by simp)
                      · rw [if_neg c28] at H; exact absurd H (by simp)
                    · rw [if_neg c27] at H; exact absurd H (by simp)
                · rw [if_neg c24] at H; exact absurd H (by simp)
              · rw [if_neg c23] at H; exact absurd H (by simp)
            · rw [if_neg c22] at H; have c22b0 : decide (x43_2 < (l1.length : Int)) = false := decide_eq_false c22; clear c22; simp only [Option.some.injEq, Prod.mk.injEq] at H; obtain ⟨rfl, rfl⟩ := H; go_wp2; go_ret; exact ⟨z10_, z7_, z5_, z6_⟩

end Go.Proofs.Ytofcgkcpkngocaa.MCircles
