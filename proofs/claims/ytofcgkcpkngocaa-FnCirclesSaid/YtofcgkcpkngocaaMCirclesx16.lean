-- by a program of this session, for this claim
import Derived.Test.YtofcgkcpkngocaaMCirclesx0
import Derived.Test.YtofcgkcpkngocaaMCirclesx2
import Derived.Test.YtofcgkcpkngocaaMCirclesx4
import Derived.Test.YtofcgkcpkngocaaMCirclesx14
namespace Go.Proofs.Ytofcgkcpkngocaa.MCircles
open Go.RowKit Go.Proofs.YtofcgkcpkngocaaW.PrintWords Go.Proofs.YtofcgkcpkngocaaW.PrintLast Go.Proofs.YtofcgkcpkngocaaW.PrintMore
attribute [local go_sem] max2_int min2_int max_two min_two max_three min_three max_four min_four   -- for this text's walks alone
set_option linter.unusedVariables false
set_option linter.unusedSimpArgs false

/-! ### spec_l02Nets: function 74 -/
def spec_l02Nets.l0 : Nat → List (S65) → List Int → Int → Option (List Int)
  | 0, _, _, _ => none
  | k + 1, x1, x5, x6 => if x6 < (x1.length : Int) then (if 0 ≤ x6 then (if 0 ≤ ((rd_T65 x1 x6).f0) then (if ((rd_T65 x1 x6).f0) < (x5.length : Int) then ((some (x5.set (((rd_T65 x1 x6).f0) : Int).toNat (wrap64 ((rd x5 ((rd_T65 x1 x6).f0)) - ((rd_T65 x1 x6).f2))) : List Int)).bind fun y462 => (if 0 ≤ ((rd_T65 x1 x6).f1) then (if ((rd_T65 x1 x6).f1) < (x5.length : Int) then (spec_l02Nets.l0 k x1 (y462.set (((rd_T65 x1 x6).f1) : Int).toNat (wrap64 ((rd y462 ((rd_T65 x1 x6).f1)) + ((rd_T65 x1 x6).f2)))) (wrap64 (x6 + 1))) else (none)) else (none))) else (none)) else (none)) else (none)) else (some x5)
def spec_l02Nets.f (k : Nat) (a0 : Int) (l1 : List (S65)) : Option (List Int) := if 0 ≤ a0 then (if (a0 : Int).toNat ≤ 35184372088832 then (spec_l02Nets.l0 k l1 (List.replicate (a0 : Int).toNat 0) 0) else (none)) else (none)
theorem spec_l02Nets.mono_l : ∀ k, (∀ y0 y1 y2, LeO (spec_l02Nets.l0 k y0 y1 y2) (spec_l02Nets.l0 (k + 1) y0 y1 y2))
  | 0 => fun _ _ _ r h => by simp [spec_l02Nets.l0] at h
  | k + 1 => by
    have ih0 := spec_l02Nets.mono_l k
    · intro y0 y1 y2
      unfold spec_l02Nets.l0
      repeat' first
      | (with_reducible exact ih0 _ _ _)
      | (with_reducible exact LeO.refl _)
      | (with_reducible exact LeO.none _)
      | (with_reducible refine LeO.ite ?_ ?_)
      | (with_reducible refine LeO.bind ?_ (fun _ => ?_))
      | exact ih0 _ _ _
      | exact LeO.none _
      | refine LeO.ite ?_ ?_
      | refine LeO.bind ?_ (fun _ => ?_)
theorem spec_l02Nets.mono : ∀ a0 a1 k, LeO (spec_l02Nets.f k a0 a1) (spec_l02Nets.f (k + 1) a0 a1) := by
  intro a0 a1 k; have ih0 := spec_l02Nets.mono_l k; unfold spec_l02Nets.f
  repeat' first
      | (with_reducible exact ih0 _ _ _)
      | (with_reducible exact LeO.refl _)
      | (with_reducible exact LeO.none _)
      | (with_reducible refine LeO.ite ?_ ?_)
      | (with_reducible refine LeO.bind ?_ (fun _ => ?_))
      | exact ih0 _ _ _
      | exact LeO.none _
      | refine LeO.ite ?_ ?_
      | refine LeO.bind ?_ (fun _ => ?_)
def spec_l02Nets.T5 : Bool × List (List Nat × List Nat) := (true, [([], []), ([], []), ([], []), ([1, 2], [1, 2]), ([3], [3]), ([4], [4]), ([0, 5], [0, 5]), ([6], [6]), ([], []), ([], []), ([8, 9], [8, 9]), ([10], [10]), ([11], [11]), ([7, 12], [7, 12]), ([0, 5, 0, 1, 2, 3, 4, 5, 6, 7, 8, 9, 10, 11, 12, 13], [0, 5]), ([14, 13, 0, 1, 2, 3, 4, 5, 6, 7, 8, 9, 10, 11, 12, 13], [13, 14])])
def spec_l02Nets.B5 : List Nat := [0, 0, 0, 6, 14, 30, 63, 127, 0, 0, 768, 1792, 3840, 8191, 16383, 32767]
theorem spec_l02Nets.tab5 : rtab .any (opsOf Try.f74 5) = spec_l02Nets.T5 := by kernel_rfl
theorem spec_l02Nets.bits5 : waitsOk spec_l02Nets.T5.2 spec_l02Nets.B5 = true := by kernel_rfl
def spec_l02Nets.T6 : Bool × List (List Nat × List Nat) := (true, [([], []), ([], []), ([], []), ([1, 2], [1, 2]), ([3], [3]), ([4], [4]), ([0, 5], [0, 5]), ([6], [6]), ([], []), ([], []), ([8, 9], [8, 9]), ([10], [10]), ([11], [11]), ([7, 12], [7, 12]), ([0, 5, 0, 1, 2, 3, 4, 5, 6, 7, 8, 9, 10, 11, 12, 13], [0, 5]), ([14, 13, 0, 1, 2, 3, 4, 5, 6, 7, 8, 9, 10, 11, 12, 13], [13, 14])])
def spec_l02Nets.B6 : List Nat := [0, 0, 0, 6, 14, 30, 63, 127, 0, 0, 768, 1792, 3840, 8191, 16383, 32767]
theorem spec_l02Nets.tab6 : rtab .any (opsOf Try.f74 6) = spec_l02Nets.T6 := by kernel_rfl
theorem spec_l02Nets.bits6 : waitsOk spec_l02Nets.T6.2 spec_l02Nets.B6 = true := by kernel_rfl
set_option maxHeartbeats 8000000 in
set_option maxRecDepth 100000 in
theorem spec_l02Nets.calls (k : Nat) (a0 : Int) (A1 : Option Addr) (c1 : Nat) (l1 : List (S65)) (r : List Int) (w : World) (hr1 : Kd.C k65 w A1 l1.length l1) (hc1 : l1.length ≤ c1) (h : spec_l02Nets.f k a0 l1 = some r) :
    Calls Try.prog 74 #[.int .i64 a0, .slice A1 l1.length c1] w fun e w' => ∃ v0_ : Value, e = .returned (v0_) ∧ Kd.R (Kd.int .i64) 2 w' w.heap.size (fun _ => True) v0_ r ∧ Below w.heap.size w w' := by
  have HR1 := A_ hr1; have HC1 := A_ hc1; clear hr1 hc1; have HB := A_ (Below.refl w.heap.size w); have H : (if 0 ≤ a0 then (if (a0 : Int).toNat ≤ 35184372088832 then (spec_l02Nets.l0 k l1 (List.replicate (a0 : Int).toNat 0) 0) else (none)) else (none)) = some r := h; clear h; by_cases c3 : 0 ≤ a0
  · rw [if_pos c3] at H; have c3b0 := eq_true c3; have c3b1 : decide (0 ≤ a0) = true := decide_eq_true c3; clear c3; by_cases c4 : (a0 : Int).toNat ≤ 35184372088832
    · rw [if_pos c4] at H; have c4b0 := eq_true c4; have c4b1 : decide ((a0 : Int).toNat ≤ 35184372088832) = true := decide_eq_true c4; clear c4; obtain ⟨y456, hy456⟩ : ∃ y_ : List Int, y_ = (List.replicate (a0 : Int).toNat 0) := ⟨_, rfl⟩; (replace H : (spec_l02Nets.l0 k l1 y456 0) = some r := by first | (rw [hy456]; with_reducible exact H) | (have H2_ := (Option.bind_some _ _).symm.trans H; rw [hy456]; with_reducible exact H2_) | (have H2_ := (Option.bind_some _ _).symm.trans H; with_reducible exact H2_) | with_reducible exact H | (rw [hy456]; exact H) | exact H); have Ny456 := A_ hy456; clear hy456; have H' := A_ H; clear H; go_enter Try.func74, Try.ntmps74; go_wp2_with (first | ((with_reducible refine gate_dst (N := 8) rfl ?_); refine Kd.R_make (Kd.int .i64) _ 2 rfl (N := 8) rfl 34 _ _ rfl a0 rfl rfl Try.underlying34 (.int .i64 0) 8 info2 rfl (by decide) (by omega) 0 (ok := fun _ => True) (okp := fun _ => True) rfl (fun _ hk => hk) trivial (of_decide_eq_true z3_) (Nat.le_trans (Nat.mul_le_mul_right _ (of_decide_eq_true (z3_) : a0.toNat ≤ 35184372088832)) (by omega)) (Below.refl _ _) (Nat.le_refl _) ?_; intro v457 w5 ho6 hb hg_ hnew_; clear hg_ hnew_; (first | rw [← Ny456.out] at ho6 | (simp only [Int.reduceToNat] at ho6; rw [← Ny456.out] at ho6)); have n0_ := A_ (Kd.R_lower ho6 (below_size z0_)); have n1_ := A_ (below_step z0_ hb); clear HB; have HO458 := n0_; have HB := n1_; clear n0_ n1_; clear hb ho6)); go_loopg [6] k (fun kq v6 w' => ∃ (x5_1 : List Int) (x6_1 : Int), v6 = .int .i64 x6_1 ∧ Aside0 (spec_l02Nets.l0 kq l1 x5_1 x6_1 = some r) ∧ Aside0 (kq ≤ k) ∧ Aside0 (Kd.R (Kd.int .i64) 2 w' w.heap.size (fun _ => True) v457 x5_1) ∧ Aside0 (Below w.heap.size w w'))
      case atStart => exact ⟨(y456), (0), z11_, H', ⟨Nat.le_refl _⟩, ⟨by (with_reducible repeat (first | apply Kd.R_alloc | apply Kd.R_drewN | apply Kd.R_drew)); exact HO458.out⟩, ⟨z0_⟩⟩
      case round =>
        clear H'; (try clear c1); (try clear p2); (try clear c3); (try clear c3b0); (try clear c3b1); (try clear c4); (try clear c4b0); (try clear c4b1); obtain ⟨x5_1, x6_1, rfl, HA, HK1, HO_5, HB⟩ := hrel
        cases gk with
        | zero => exact absurd HA.out (by simp [spec_l02Nets.l0])
        | succ k1 =>
          have H := HA.out; clear HA; simp only [spec_l02Nets.l0] at H; by_cases c7 : x6_1 < (l1.length : Int)
          · rw [if_pos c7] at H; have c7b0 : decide (x6_1 < (l1.length : Int)) = true := decide_eq_true c7; clear c7; by_cases c8 : 0 ≤ x6_1
            · rw [if_pos c8] at H; have c8b0 : decide (0 ≤ x6_1) = true := decide_eq_true c8; clear c8; by_cases c9 : 0 ≤ ((rd_T65 l1 x6_1).f0)
              · rw [if_pos c9] at H; have c9b0 : decide (0 ≤ ((rd_T65 l1 x6_1).f0)) = true := decide_eq_true c9; clear c9; by_cases c10 : ((rd_T65 l1 x6_1).f0) < (x5_1.length : Int)
                · rw [if_pos c10] at H; have c10b0 : decide (((rd_T65 l1 x6_1).f0) < (x5_1.length : Int)) = true := decide_eq_true c10; clear c10; obtain ⟨y462, hy462⟩ : ∃ y_ : List Int, y_ = (x5_1.set (((rd_T65 l1 x6_1).f0) : Int).toNat (wrap64 ((rd x5_1 ((rd_T65 l1 x6_1).f0)) - ((rd_T65 l1 x6_1).f2)))) := ⟨_, rfl⟩; (replace H : (if 0 ≤ ((rd_T65 l1 x6_1).f1) then (if ((rd_T65 l1 x6_1).f1) < (x5_1.length : Int) then (spec_l02Nets.l0 k1 l1 (y462.set (((rd_T65 l1 x6_1).f1) : Int).toNat (wrap64 ((rd y462 ((rd_T65 l1 x6_1).f1)) + ((rd_T65 l1 x6_1).f2)))) (wrap64 (x6_1 + 1))) else (none)) else (none)) = some r := by first | (rw [hy462]; with_reducible exact H) | (have H2_ := (Option.bind_some _ _).symm.trans H; rw [hy462]; with_reducible exact H2_) | (have H2_ := (Option.bind_some _ _).symm.trans H; with_reducible exact H2_) | with_reducible exact H | (rw [hy462]; exact H) | exact H); have Ny462 := A_ hy462; clear hy462; by_cases c12 : 0 ≤ ((rd_T65 l1 x6_1).f1)
                  · rw [if_pos c12] at H; have c12b0 : decide (0 ≤ ((rd_T65 l1 x6_1).f1)) = true := decide_eq_true c12; clear c12; by_cases c13 : ((rd_T65 l1 x6_1).f1) < (x5_1.length : Int)
                    · rw [if_pos c13] at H; have c13b0 : decide (((rd_T65 l1 x6_1).f1) < (x5_1.length : Int)) = true := decide_eq_true c13; clear c13; obtain ⟨y466, hy466⟩ : ∃ y_ : List Int, y_ = (y462.set (((rd_T65 l1 x6_1).f1) : Int).toNat (wrap64 ((rd y462 ((rd_T65 l1 x6_1).f1)) + ((rd_T65 l1 x6_1).f2)))) := ⟨_, rfl⟩; (replace H : (spec_l02Nets.l0 k1 l1 y466 (wrap64 (x6_1 + 1))) = some r := by first | (rw [hy466]; with_reducible exact H) | (have H2_ := (Option.bind_some _ _).symm.trans H; rw [hy466]; with_reducible exact H2_) | (have H2_ := (Option.bind_some _ _).symm.trans H; with_reducible exact H2_) | with_reducible exact H | (rw [hy466]; exact H) | exact H); have Ny466 := A_ hy466; clear hy466; have H' := A_ H; clear H; (try go_wp2); have n0_ := A_ (Kd.R_drew HO_5.out); have n1_ := A_ (below_drew1 HB.out); clear HO_5; clear HB; have HO_5 := n0_; have HB := n1_; clear n0_ n1_; have p459 : 0 ≤ (x6_1 : Int) := of_decide_eq_true z3_; have q459 : x6_1 < (l1.length : Int) := of_decide_eq_true z3_; obtain ⟨ad459, e459, hx459_0, hx459_1, hx459_2⟩ := at_T65 HR1.out x6_1 p459 q459; have hw459_2 := hx459_2; have hw459_1 := hx459_1; have hw459_0 := hx459_0; cases e459; replace hx459_0 := (HB.out.cell (bl_ w _ hx459_0)).trans hx459_0; replace hx459_1 := (HB.out.cell (bl_ w _ hx459_1)).trans hx459_1; replace hx459_2 := (HB.out.cell (bl_ w _ hx459_2)).trans hx459_2; replace p459 := eq_true p459; replace q459 := eq_true q459; obtain ⟨Ao16, co16, eo16⟩ := Kd.R_slice HO_5.out; (first | subst eo16 | (injection eo16 with f1_ f2_ f3_; have f4_ := f1_.symm; have f5_ := f3_.symm; clear f1_ f2_ f3_; subst f4_; subst f5_)); have p460 : 0 ≤ (((rd_T65 l1 x6_1).f0) : Int) := of_decide_eq_true z3_; have q460 : ((rd_T65 l1 x6_1).f0) < (x5_1.length : Int) := of_decide_eq_true z3_; obtain ⟨ad460, e460, hx460_0⟩ := Kd.at_int (Kd.R_reads' HO_5.out).2.2 ((rd_T65 l1 x6_1).f0) p460 q460; cases e460; replace p460 := eq_true p460; replace q460 := eq_true q460; have p461 : 0 ≤ (x6_1 : Int) := of_decide_eq_true z3_; have q461 : x6_1 < (l1.length : Int) := of_decide_eq_true z3_; obtain ⟨ad461, e461, hx461_0, hx461_1, hx461_2⟩ := at_T65 HR1.out x6_1 p461 q461; have hw461_2 := hx461_2; have hw461_1 := hx461_1; have hw461_0 := hx461_0; obtain rfl : ad459 = ad461 := (by injection e461); replace hx461_0 := (HB.out.cell (bl_ w _ hx461_0)).trans hx461_0; replace hx461_1 := (HB.out.cell (bl_ w _ hx461_1)).trans hx461_1; replace hx461_2 := (HB.out.cell (bl_ w _ hx461_2)).trans hx461_2; replace p461 := eq_true p461; replace q461 := eq_true q461; have p11 : 0 ≤ (((rd_T65 l1 x6_1).f0) : Int) := of_decide_eq_true z3_; have q11 : (((rd_T65 l1 x6_1).f0) : Int) < ((x5_1.length : Int) : Int) := of_decide_eq_true z3_; obtain ⟨go11, co11, eo11, gb11, gl11, cl11, HG11⟩ := Kd.R_form HO_5.out (by omega); (first | cases eo11 | (injection eo11 with ea_ en_ ec_; (first | subst ea_ | (injection ea_ with ea_; subst ea_)); subst ec_; clear en_)); have GB11 := A_ gb11; have GG11 := A_ HG11; clear gb11 gl11 HG11; (first | simp only [add_plain] at hx460_0 | skip); obtain ⟨hx11_0, hf11_0⟩ := Kd.R_celln 0 HO_5.out (((rd_T65 l1 x6_1).f0) : Int) p11 q11; replace p11 := eq_true p11; replace q11 := eq_true q11; have HP17 := Kd.R_putn HO_5.out (((rd_T65 l1 x6_1).f0) : Int) (wrap64 ((rd x5_1 ((rd_T65 l1 x6_1).f0)) - ((rd_T65 l1 x6_1).f2))); rw [← Ny462.out] at HP17; have HQ17 := A_ HP17; clear HP17; refine start_ (n := 16) (S := fun w' => w'.cell? (ad459.add ((x6_1).toNat * 3)) = some (.int .i64 ((rd_T65 l1 x6_1).f0)) ∧ w'.cell? ⟨(ad459.add ((x6_1).toNat * 3)).block, (ad459.add ((x6_1).toNat * 3)).off + 1, none⟩ = some (.int .i64 ((rd_T65 l1 x6_1).f1)) ∧ w'.cell? ⟨(ad459.add ((x6_1).toNat * 3)).block, (ad459.add ((x6_1).toNat * 3)).off + 2, none⟩ = some (.int .i64 ((rd_T65 l1 x6_1).f2)) ∧ w'.cell? ⟨go11, (((rd_T65 l1 x6_1).f0)).toNat, none⟩ = some (.int .i64 (rd x5_1 ((rd_T65 l1 x6_1).f0))) ∧ w'.cell? (ad459.add ((x6_1).toNat * 3)) = some (.int .i64 ((rd_T65 l1 x6_1).f0)) ∧ w'.cell? ⟨(ad459.add ((x6_1).toNat * 3)).block, (ad459.add ((x6_1).toNat * 3)).off + 1, none⟩ = some (.int .i64 ((rd_T65 l1 x6_1).f1)) ∧ w'.cell? ⟨(ad459.add ((x6_1).toNat * 3)).block, (ad459.add ((x6_1).toNat * 3)).off + 2, none⟩ = some (.int .i64 ((rd_T65 l1 x6_1).f2))) (ds := [15]) #[false, false, false, false, false, false, false, false, false, false, false, false, false, false, false, false] z13_ rfl rfl ⟨((HB.out.cell (bl_ _ _ hw459_0)).trans hw459_0), ((HB.out.cell (bl_ _ _ hw459_1)).trans hw459_1), ((HB.out.cell (bl_ _ _ hw459_2)).trans hw459_2), hx460_0, ((HB.out.cell (bl_ _ _ hw461_0)).trans hw461_0), ((HB.out.cell (bl_ _ _ hw461_1)).trans hw461_1), ((HB.out.cell (bl_ _ _ hw461_2)).trans hw461_2)⟩ (fun hHeld => ?_); refine with_tabW spec_l02Nets.tab5 spec_l02Nets.bits5 (fun HT_ HW_ => ?_); generalize wr.drew = w15 at HO_5 HB GG11 HQ17 hf11_0 hx11_0 hx459_0 hx459_1 hx459_2 hx460_0 hx461_0 hx461_1 hx461_2 hHeld ⊢; refine pure_ (i := 0) (N := some 15) (v := ?_) (a' := ?_) #[true, false, false, false, false, false, false, false, false, false, false, false, false, false, false, false] rfl rfl (any_of HT_.out z13_) (fun _ _ _ h => h) (Or.inl ⟨by rfl, ?_⟩) ?_ ?_; rotate_left
                      · intro w'; go_simp; with_reducible rfl
                      rotate_left
                      · exact zp_
                      refine pure_ (i := 1) (N := some 16) (v := ?_) (a' := ?_) #[true, true, false, false, false, false, false, false, false, false, false, false, false, false, false, false] rfl rfl (any_of HT_.out z13_) (fun _ _ _ h => h) (Or.inl ⟨by rfl, ?_⟩) ?_ ?_; rotate_left
                      · intro w'; go_simp; with_reducible rfl
                      rotate_left
                      · exact zp_
                      refine pure_ (i := 2) (N := some 17) (v := ?_) (a' := ?_) #[true, true, true, false, false, false, false, false, false, false, false, false, false, false, false, false] rfl rfl (any_of HT_.out z13_) (fun _ _ _ h => h) (Or.inl ⟨by rfl, ?_⟩) ?_ ?_; rotate_left
                      · intro w'; go_simp; with_reducible rfl
                      rotate_left
                      · exact zp_
                      refine pure_ (i := 3) (N := some 18) (v := ?_) (a' := ?_) #[true, true, true, true, false, false, false, false, false, false, false, false, false, false, false, false] rfl rfl (any_of HT_.out z13_) (fun _ _ _ h => h) (Or.inl ⟨by rfl, ?_⟩) ?_ ?_; rotate_left
                      · intro w'; go_simp; with_reducible rfl
                      rotate_left
                      · exact zp_
                      refine pure_ (i := 4) (N := some 19) (v := ?_) (a' := ?_) #[true, true, true, true, true, false, false, false, false, false, false, false, false, false, false, false] rfl rfl (any_of HT_.out z13_) (fun _ _ _ h => h) (Or.inl ⟨by rfl, ?_⟩) ?_ ?_; rotate_left
                      · intro w'; go_simp; with_reducible rfl
                      rotate_left
                      · exact zp_
                      refine pure_ (i := 8) (N := some 23) (v := ?_) (a' := ?_) #[true, true, true, true, true, false, false, false, true, false, false, false, false, false, false, false] rfl rfl (any_of HT_.out z13_) (fun _ _ _ h => h) (Or.inl ⟨by rfl, ?_⟩) ?_ ?_; rotate_left
                      · intro w'; go_simp; with_reducible rfl
                      rotate_left
                      · exact zp_
                      refine pure_ (i := 9) (N := some 24) (v := ?_) (a' := ?_) #[true, true, true, true, true, false, false, false, true, true, false, false, false, false, false, false] rfl rfl (any_of HT_.out z13_) (fun _ _ _ h => h) (Or.inl ⟨by rfl, ?_⟩) ?_ ?_; rotate_left
                      · intro w'; go_simp; with_reducible rfl
                      rotate_left
                      · exact zp_
                      refine pure_ (i := 10) (N := some 25) (v := ?_) (a' := ?_) #[true, true, true, true, true, false, false, false, true, true, true, false, false, false, false, false] rfl rfl (any_of HT_.out z13_) (fun _ _ _ h => h) (Or.inl ⟨by rfl, ?_⟩) ?_ ?_; rotate_left
                      · intro w'; go_simp; with_reducible rfl
                      rotate_left
                      · exact zp_
                      refine pure_ (i := 11) (N := some 26) (v := ?_) (a' := ?_) #[true, true, true, true, true, false, false, false, true, true, true, true, false, false, false, false] rfl rfl (any_of HT_.out z13_) (fun _ _ _ h => h) (Or.inl ⟨by rfl, ?_⟩) ?_ ?_; rotate_left
                      · intro w'; go_simp; with_reducible rfl
                      rotate_left
                      · exact zp_
                      refine take_ (i := 5) (N := some 20) (v := ?_) (a' := ?_) #[true, true, true, true, true, true, false, false, true, true, true, true, false, false, false, false] rfl rfl (take_ofW HT_.out HW_.out z13_) (fun _ _ _ h => h) (Or.inl ⟨by rfl, ?_⟩) hHeld ?_ ?_; rotate_left
                      · rintro w' ⟨s0, s1, s2, s3, s4, s5, s6⟩; go_simp; with_reducible rfl
                      rotate_left
                      · exact zp_
                      refine pure_ (i := 6) (N := some 21) (v := ?_) (a' := ?_) #[true, true, true, true, true, true, true, false, true, true, true, true, false, false, false, false] rfl rfl (any_of HT_.out z13_) (fun _ _ _ h => h) (Or.inl ⟨by rfl, ?_⟩) ?_ ?_; rotate_left
                      · intro w'; go_simp; with_reducible rfl
                      rotate_left
                      · exact zp_
                      refine take_ (i := 7) (N := some 22) (v := ?_) (a' := ?_) #[true, true, true, true, true, true, true, true, true, true, true, true, false, false, false, false] rfl rfl (take_ofW HT_.out HW_.out z13_) (fun _ _ _ h => h) (Or.inl ⟨by rfl, ?_⟩) hHeld ?_ ?_; rotate_left
                      · rintro w' ⟨s0, s1, s2, s3, s4, s5, s6⟩; go_simp; with_reducible rfl
                      rotate_left
                      · exact zp_
                      refine take_ (i := 12) (N := some 27) (v := ?_) (a' := ?_) #[true, true, true, true, true, true, true, true, true, true, true, true, true, false, false, false] rfl rfl (take_ofW HT_.out HW_.out z13_) (fun _ _ _ h => h) (Or.inl ⟨by rfl, ?_⟩) hHeld ?_ ?_; rotate_left
                      · rintro w' ⟨s0, s1, s2, s3, s4, s5, s6⟩; go_simp; with_reducible rfl
                      rotate_left
                      · exact zp_
                      refine pure_ (i := 13) (N := some 28) (v := ?_) (a' := ?_) #[true, true, true, true, true, true, true, true, true, true, true, true, true, true, false, false] rfl rfl (any_of HT_.out z13_) (fun _ _ _ h => h) (Or.inl ⟨by rfl, ?_⟩) ?_ ?_; rotate_left
                      · intro w'; go_simp; with_reducible rfl
                      rotate_left
                      · exact zp_
                      refine pure_ (i := 14) (N := some 29) (v := ?_) (a' := ?_) #[true, true, true, true, true, true, true, true, true, true, true, true, true, true, true, false] rfl rfl (any_of HT_.out z13_) (fun _ _ _ h => h) (Or.inl ⟨by rfl, ?_⟩) ?_ ?_; rotate_left
                      · intro w'; go_simp; with_reducible rfl
                      rotate_left
                      · exact zp_
                      refine last_ (i := 15) (N := none) #[true, true, true, true, true, true, true, true, true, true, true, true, true, true, true, true] rfl rfl (one_of HT_.out z13_) (by decide) (fun K hK => ?_); refine skip_ (w1 := ?_) (by rfl) rfl ?_ ?_; rotate_left
                      · go_simp; rfl
                      refine hK.out _ _ ?_; clear hK K; refine done_ (done_of HT_.out z13_) ?_; (try go_wp2); have n0_ : Aside0 (Kd.R (Kd.int .i64) 2 (w15.setCell ⟨go11, (((rd_T65 l1 x6_1).f0) : Int).toNat, none⟩ (.int .i64 (wrap64 ((rd x5_1 ((rd_T65 l1 x6_1).f0)) - ((rd_T65 l1 x6_1).f2))))) w.heap.size (fun _ => True) (.slice (some ⟨go11, 0, none⟩) x5_1.length co16) y462) := ⟨by (with_reducible repeat (first | apply Kd.R_alloc | apply Kd.R_drewN | apply Kd.R_drew)); exact HQ17.out⟩; have n1_ : Aside0 (Below w.heap.size w (w15.setCell ⟨go11, (((rd_T65 l1 x6_1).f0) : Int).toNat, none⟩ (.int .i64 (wrap64 ((rd x5_1 ((rd_T65 l1 x6_1).f0)) - ((rd_T65 l1 x6_1).f2)))))) := ⟨by repeat (first | (with_reducible first | exact HB.out | apply below_alloc | apply pw_below_drewN | apply below_drew1 | refine below_set ?_ GB11.out) | exact HB.out)⟩; (try clear HO_5); (try clear HB); generalize (w15.setCell ⟨go11, (((rd_T65 l1 x6_1).f0) : Int).toNat, none⟩ (.int .i64 (wrap64 ((rd x5_1 ((rd_T65 l1 x6_1).f0)) - ((rd_T65 l1 x6_1).f2))))) = w18 at n0_ n1_ ⊢; have HO_5 := n0_; have HB := n1_; clear n0_ n1_; have n0_ := A_ (Kd.R_drew HO_5.out); have n1_ := A_ (below_drew1 HB.out); clear HO_5; clear HB; have HO_5 := n0_; have HB := n1_; clear n0_ n1_; have p463 : 0 ≤ (x6_1 : Int) := of_decide_eq_true z3_; have q463 : x6_1 < (l1.length : Int) := of_decide_eq_true z3_; obtain ⟨ad463, e463, hx463_0, hx463_1, hx463_2⟩ := at_T65 HR1.out x6_1 p463 q463; have hw463_2 := hx463_2; have hw463_1 := hx463_1; have hw463_0 := hx463_0; obtain rfl : ad459 = ad463 := (by injection e463); replace hx463_0 := (HB.out.cell (bl_ w _ hx463_0)).trans hx463_0; replace hx463_1 := (HB.out.cell (bl_ w _ hx463_1)).trans hx463_1; replace hx463_2 := (HB.out.cell (bl_ w _ hx463_2)).trans hx463_2; replace p463 := eq_true p463; replace q463 := eq_true q463; have p464 : 0 ≤ (((rd_T65 l1 x6_1).f1) : Int) := of_decide_eq_true z3_; have q464 : ((rd_T65 l1 x6_1).f1) < (y462.length : Int) := (by have h_ : (((rd_T65 l1 x6_1).f1) : Int) < ((x5_1.length : Int) : Int) := of_decide_eq_true z3_; first | (have e_ := (Kd.R_reads' HO_5.out).1; omega) | simpa only [Ny462.out, List.length_set] using h_); have ql464 : ((((rd_T65 l1 x6_1).f1) : Int) < ((x5_1.length : Int) : Int)) = True := eq_true (of_decide_eq_true z3_); obtain ⟨ad464, e464, hx464_0⟩ := Kd.at_int (Kd.R_reads' HO_5.out).2.2 ((rd_T65 l1 x6_1).f1) p464 q464; obtain rfl : (⟨go11, 0, none⟩ : Addr) = ad464 := (by injection e464); (first | simp only [add_plain] at hx464_0 | simp only [add_at] at hx464_0 | simp only [Addr.add, Nat.zero_add] at hx464_0 | skip); replace p464 := eq_true p464; replace q464 := eq_true q464; have p465 : 0 ≤ (x6_1 : Int) := of_decide_eq_true z3_; have q465 : x6_1 < (l1.length : Int) := of_decide_eq_true z3_; obtain ⟨ad465, e465, hx465_0, hx465_1, hx465_2⟩ := at_T65 HR1.out x6_1 p465 q465; have hw465_2 := hx465_2; have hw465_1 := hx465_1; have hw465_0 := hx465_0; obtain rfl : ad459 = ad465 := (by injection e465); replace hx465_0 := (HB.out.cell (bl_ w _ hx465_0)).trans hx465_0; replace hx465_1 := (HB.out.cell (bl_ w _ hx465_1)).trans hx465_1; replace hx465_2 := (HB.out.cell (bl_ w _ hx465_2)).trans hx465_2; replace p465 := eq_true p465; replace q465 := eq_true q465; have p14 : 0 ≤ (((rd_T65 l1 x6_1).f1) : Int) := of_decide_eq_true z3_; have q14 : (((rd_T65 l1 x6_1).f1) : Int) < ((x5_1.length : Int) : Int) := of_decide_eq_true z3_; obtain ⟨hx14_0, hf14_0⟩ := Kd.R_celln 0 HO_5.out (((rd_T65 l1 x6_1).f1) : Int) p14 q14; replace p14 := eq_true p14; replace q14 := eq_true q14; have HP20 := Kd.R_putn HO_5.out (((rd_T65 l1 x6_1).f1) : Int) (wrap64 ((rd y462 ((rd_T65 l1 x6_1).f1)) + ((rd_T65 l1 x6_1).f2))); rw [← Ny466.out] at HP20; have HQ20 := A_ HP20; clear HP20; refine start_ (n := 16) (S := fun w' => w'.cell? (ad459.add ((x6_1).toNat * 3)) = some (.int .i64 ((rd_T65 l1 x6_1).f0)) ∧ w'.cell? ⟨(ad459.add ((x6_1).toNat * 3)).block, (ad459.add ((x6_1).toNat * 3)).off + 1, none⟩ = some (.int .i64 ((rd_T65 l1 x6_1).f1)) ∧ w'.cell? ⟨(ad459.add ((x6_1).toNat * 3)).block, (ad459.add ((x6_1).toNat * 3)).off + 2, none⟩ = some (.int .i64 ((rd_T65 l1 x6_1).f2)) ∧ w'.cell? ⟨go11, (((rd_T65 l1 x6_1).f1)).toNat, none⟩ = some (.int .i64 (rd y462 ((rd_T65 l1 x6_1).f1))) ∧ w'.cell? (ad459.add ((x6_1).toNat * 3)) = some (.int .i64 ((rd_T65 l1 x6_1).f0)) ∧ w'.cell? ⟨(ad459.add ((x6_1).toNat * 3)).block, (ad459.add ((x6_1).toNat * 3)).off + 1, none⟩ = some (.int .i64 ((rd_T65 l1 x6_1).f1)) ∧ w'.cell? ⟨(ad459.add ((x6_1).toNat * 3)).block, (ad459.add ((x6_1).toNat * 3)).off + 2, none⟩ = some (.int .i64 ((rd_T65 l1 x6_1).f2))) (ds := [15]) #[false, false, false, false, false, false, false, false, false, false, false, false, false, false, false, false] z13_ rfl rfl ⟨((HB.out.cell (bl_ _ _ hw463_0)).trans hw463_0), ((HB.out.cell (bl_ _ _ hw463_1)).trans hw463_1), ((HB.out.cell (bl_ _ _ hw463_2)).trans hw463_2), hx464_0, ((HB.out.cell (bl_ _ _ hw465_0)).trans hw465_0), ((HB.out.cell (bl_ _ _ hw465_1)).trans hw465_1), ((HB.out.cell (bl_ _ _ hw465_2)).trans hw465_2)⟩ (fun hHeld => ?_); refine with_tabW spec_l02Nets.tab6 spec_l02Nets.bits6 (fun HT_ HW_ => ?_); generalize w18.drew = w19 at HO_5 HB HQ17 HQ20 hf14_0 hx14_0 hx463_0 hx463_1 hx463_2 hx464_0 hx465_0 hx465_1 hx465_2 hHeld ⊢; refine pure_ (i := 0) (N := some 30) (v := ?_) (a' := ?_) #[true, false, false, false, false, false, false, false, false, false, false, false, false, false, false, false] rfl rfl (any_of HT_.out z13_) (fun _ _ _ h => h) (Or.inl ⟨by rfl, ?_⟩) ?_ ?_; rotate_left
                      · intro w'; go_simp; with_reducible rfl
                      rotate_left
                      · exact zp_
                      refine pure_ (i := 1) (N := some 31) (v := ?_) (a' := ?_) #[true, true, false, false, false, false, false, false, false, false, false, false, false, false, false, false] rfl rfl (any_of HT_.out z13_) (fun _ _ _ h => h) (Or.inl ⟨by rfl, ?_⟩) ?_ ?_; rotate_left
                      · intro w'; go_simp; with_reducible rfl
                      rotate_left
                      · exact zp_
                      refine pure_ (i := 2) (N := some 32) (v := ?_) (a' := ?_) #[true, true, true, false, false, false, false, false, false, false, false, false, false, false, false, false] rfl rfl (any_of HT_.out z13_) (fun _ _ _ h => h) (Or.inl ⟨by rfl, ?_⟩) ?_ ?_; rotate_left
                      · intro w'; go_simp; with_reducible rfl
                      rotate_left
                      · exact zp_
                      refine pure_ (i := 3) (N := some 33) (v := ?_) (a' := ?_) #[true, true, true, true, false, false, false, false, false, false, false, false, false, false, false, false] rfl rfl (any_of HT_.out z13_) (fun _ _ _ h => h) (Or.inl ⟨by rfl, ?_⟩) ?_ ?_; rotate_left
                      · intro w'; go_simp; with_reducible rfl
                      rotate_left
                      · exact zp_
                      refine pure_ (i := 4) (N := some 34) (v := ?_) (a' := ?_) #[true, true, true, true, true, false, false, false, false, false, false, false, false, false, false, false] rfl rfl (any_of HT_.out z13_) (fun _ _ _ h => h) (Or.inl ⟨by rfl, ?_⟩) ?_ ?_; rotate_left
                      · intro w'; go_simp; with_reducible rfl
                      rotate_left
                      · exact zp_
                      refine pure_ (i := 8) (N := some 38) (v := ?_) (a' := ?_) #[true, true, true, true, true, false, false, false, true, false, false, false, false, false, false, false] rfl rfl (any_of HT_.out z13_) (fun _ _ _ h => h) (Or.inl ⟨by rfl, ?_⟩) ?_ ?_; rotate_left
                      · intro w'; go_simp; with_reducible rfl
                      rotate_left
                      · exact zp_
                      refine pure_ (i := 9) (N := some 39) (v := ?_) (a' := ?_) #[true, true, true, true, true, false, false, false, true, true, false, false, false, false, false, false] rfl rfl (any_of HT_.out z13_) (fun _ _ _ h => h) (Or.inl ⟨by rfl, ?_⟩) ?_ ?_; rotate_left
                      · intro w'; go_simp; with_reducible rfl
                      rotate_left
                      · exact zp_
                      refine pure_ (i := 10) (N := some 40) (v := ?_) (a' := ?_) #[true, true, true, true, true, false, false, false, true, true, true, false, false, false, false, false] rfl rfl (any_of HT_.out z13_) (fun _ _ _ h => h) (Or.inl ⟨by rfl, ?_⟩) ?_ ?_; rotate_left
                      · intro w'; go_simp; with_reducible rfl
                      rotate_left
                      · exact zp_
                      refine pure_ (i := 11) (N := some 41) (v := ?_) (a' := ?_) #[true, true, true, true, true, false, false, false, true, true, true, true, false, false, false, false] rfl rfl (any_of HT_.out z13_) (fun _ _ _ h => h) (Or.inl ⟨by rfl, ?_⟩) ?_ ?_; rotate_left
                      · intro w'; go_simp; with_reducible rfl
                      rotate_left
                      · exact zp_
                      refine take_ (i := 5) (N := some 35) (v := ?_) (a' := ?_) #[true, true, true, true, true, true, false, false, true, true, true, true, false, false, false, false] rfl rfl (take_ofW HT_.out HW_.out z13_) (fun _ _ _ h => h) (Or.inl ⟨by rfl, ?_⟩) hHeld ?_ ?_; rotate_left
                      · rintro w' ⟨s0, s1, s2, s3, s4, s5, s6⟩; go_simp; with_reducible rfl
                      rotate_left
                      · exact zp_
                      refine pure_ (i := 6) (N := some 36) (v := ?_) (a' := ?_) #[true, true, true, true, true, true, true, false, true, true, true, true, false, false, false, false] rfl rfl (any_of HT_.out z13_) (fun _ _ _ h => h) (Or.inl ⟨by rfl, ?_⟩) ?_ ?_; rotate_left
                      · intro w'; go_simp; with_reducible rfl
                      rotate_left
                      · exact zp_
                      refine take_ (i := 7) (N := some 37) (v := ?_) (a' := ?_) #[true, true, true, true, true, true, true, true, true, true, true, true, false, false, false, false] rfl rfl (take_ofW HT_.out HW_.out z13_) (fun _ _ _ h => h) (Or.inl ⟨by rfl, ?_⟩) hHeld ?_ ?_; rotate_left
                      · rintro w' ⟨s0, s1, s2, s3, s4, s5, s6⟩; go_simp; with_reducible rfl
                      rotate_left
                      · exact zp_
                      refine take_ (i := 12) (N := some 42) (v := ?_) (a' := ?_) #[true, true, true, true, true, true, true, true, true, true, true, true, true, false, false, false] rfl rfl (take_ofW HT_.out HW_.out z13_) (fun _ _ _ h => h) (Or.inl ⟨by rfl, ?_⟩) hHeld ?_ ?_; rotate_left
                      · rintro w' ⟨s0, s1, s2, s3, s4, s5, s6⟩; go_simp; with_reducible rfl
                      rotate_left
                      · exact zp_
                      refine pure_ (i := 13) (N := some 43) (v := ?_) (a' := ?_) #[true, true, true, true, true, true, true, true, true, true, true, true, true, true, false, false] rfl rfl (any_of HT_.out z13_) (fun _ _ _ h => h) (Or.inl ⟨by rfl, ?_⟩) ?_ ?_; rotate_left
                      · intro w'; go_simp; with_reducible rfl
                      rotate_left
                      · exact zp_
                      refine pure_ (i := 14) (N := some 44) (v := ?_) (a' := ?_) #[true, true, true, true, true, true, true, true, true, true, true, true, true, true, true, false] rfl rfl (any_of HT_.out z13_) (fun _ _ _ h => h) (Or.inl ⟨by rfl, ?_⟩) ?_ ?_; rotate_left
                      · intro w'; go_simp; with_reducible rfl
                      rotate_left
                      · exact zp_
                      refine last_ (i := 15) (N := none) #[true, true, true, true, true, true, true, true, true, true, true, true, true, true, true, true] rfl rfl (one_of HT_.out z13_) (by decide) (fun K hK => ?_); refine skip_ (w1 := ?_) (by rfl) rfl ?_ ?_; rotate_left
                      · go_simp; rfl
                      refine hK.out _ _ ?_; clear hK K; refine done_ (done_of HT_.out z13_) ?_; (try go_wp2); go_roundg k1
                      case measure => have := HK1.out; omega
                      case rel => exact ⟨(y466), (wrap64 (x6_1 + 1)), z11_, H', ⟨z46_⟩, ⟨by (with_reducible repeat (first | apply Kd.R_alloc | apply Kd.R_drewN | apply Kd.R_drew)); exact HQ20.out⟩, ⟨by repeat (first | (with_reducible first | exact HB.out | apply below_alloc | apply pw_below_drewN | apply below_drew1 | refine below_set ?_ GB11.out) | exact HB.out)⟩⟩
                    · rw [if_neg c13] at H; exact absurd H (by simp)
                  · rw [if_neg c12] at H; exact absurd H (by simp)
                · rw [if_neg c10] at H; exact absurd H (by simp)
              · rw [if_neg c9] at H; exact absurd H (by simp)
            · rw [if_neg c8] at H; exact absurd H (by simp)
          · rw [if_neg c7] at H; have c7b0 : decide (x6_1 < (l1.length : Int)) = false := decide_eq_false c7; clear c7; obtain rfl := Option.some.inj H; go_wp2; go_ret; exact ⟨_, z10_, z57_, z0_⟩
    · rw [if_neg c4] at H; exact absurd H (by simp)
  · rw [if_neg c3] at H; exact absurd H (by simp)

/-! ### spec_NetsOf: function 49 -/
def spec_NetsOf.f (k : Nat) (a0 : Int) (l1 : List (S65)) : Option (List Int × Int) := (spec_l02Ok.f k a0 l1).bind fun t467 => (if t467 = true then ((spec_l02Nets.f k a0 l1).bind fun t468 => (some (t468, 0))) else (some ((([] : List Int)), 1)))
theorem spec_NetsOf.mono : ∀ a0 a1 k, LeO (spec_NetsOf.f k a0 a1) (spec_NetsOf.f (k + 1) a0 a1) := by
  intro a0 a1 k; unfold spec_NetsOf.f
  repeat' first
      | (with_reducible exact spec_l02Nets.mono _ _ _)
      | (with_reducible exact spec_l02Ok.mono _ _ _)
      | (with_reducible exact LeO.refl _)
      | (with_reducible exact LeO.none _)
      | (with_reducible refine LeO.ite ?_ ?_)
      | (with_reducible refine LeO.bind ?_ (fun _ => ?_))
      | exact spec_l02Nets.mono _ _ _
      | exact spec_l02Ok.mono _ _ _
      | exact LeO.none _
      | refine LeO.ite ?_ ?_
      | refine LeO.bind ?_ (fun _ => ?_)
set_option maxHeartbeats 8000000 in
set_option maxRecDepth 100000 in
theorem spec_NetsOf.calls (k : Nat) (a0 : Int) (A1 : Option Addr) (c1 : Nat) (l1 : List (S65)) (r1 : List Int) (r2 : Int) (w : World) (hr1 : Kd.C k65 w A1 l1.length l1) (hc1 : l1.length ≤ c1) (h : spec_NetsOf.f k a0 l1 = some (r1, r2)) :
    Calls Try.prog 49 #[.int .i64 a0, .slice A1 l1.length c1] w fun e w' => ∃ v0_ : Value, e = .returned (.tuple #[v0_, .int .i64 r2]) ∧ Kd.R (Kd.int .i64) 2 w' w.heap.size (fun _ => True) v0_ r1 ∧ Below w.heap.size w w' := by
  have HR1 := A_ hr1; have HC1 := A_ hc1; clear hr1 hc1; have HB := A_ (Below.refl w.heap.size w); have H : ((spec_l02Ok.f k a0 l1).bind fun t467 => (if t467 = true then ((spec_l02Nets.f k a0 l1).bind fun t468 => (some (t468, 0))) else (some ((([] : List Int)), 1)))) = some (r1, r2) := h; clear h; replace H := Option.bind_eq_some_iff.mp H; obtain ⟨t467, A30, H⟩ := H; replace H : (if t467 = true then ((spec_l02Nets.f k a0 l1).bind fun t468 => (some (t468, 0))) else (some ((([] : List Int)), 1))) = some (r1, r2) := H; have A3 := A_ A30; clear A30; by_cases c4 : t467 = true
  · subst c4; (have H1 : ((spec_l02Nets.f k a0 l1).bind fun t468 => (some (t468, 0))) = some (r1, r2) := z36_); clear H; have H := H1; clear H1; replace H := Option.bind_eq_some_iff.mp H; obtain ⟨t468, A50, H⟩ := H; replace H : (some (t468, 0)) = some (r1, r2) := H; have A5 := A_ A50; clear A50; simp only [Option.some.injEq, Prod.mk.injEq] at H; obtain ⟨rfl, rfl⟩ := H; go_enter Try.func49, Try.ntmps49; go_wp2_with (first | ((with_reducible refine gate_callee (f := 59) rfl ?_); refine goesL_ (some 8) rfl rfl Try.func59 z13_ rfl #[.int .i64 a0, .slice A1 l1.length c1] rfl z2_ ?_; (with_reducible refine (spec_l02Ok.calls k a0 _ _ l1 true _ ?side1 ?side2 A3.out).mono ?_); (case side1 => repeat (first | exact HR1.out | (with_reducible refine Kd.C_alloc ?_ _) | (with_reducible refine Kd.C_drewN ?_ _) | (with_reducible refine Kd.C_drew ?_))); (case side2 => exact HC1.out); rintro e w6 ⟨rfl, hb⟩; refine ⟨_, rfl, ?_⟩; have n0_ := A_ (below_step z0_ hb); clear HB; have HB := n0_; clear n0_; (try clear hb); (try clear hb2); (try clear hk); (try clear hi)) | ((with_reducible refine gate_callee (f := 74) rfl ?_); refine goesL_ (some 13) rfl rfl Try.func74 z13_ rfl #[.int .i64 a0, .slice A1 l1.length c1] rfl z2_ ?_; (with_reducible refine (spec_l02Nets.calls k a0 _ _ l1 t468 _ ?side1 ?side2 A5.out).mono ?_); (case side1 => repeat (first | exact (Kd.C_below HR1.out HB.out) | (with_reducible refine Kd.C_alloc ?_ _) | (with_reducible refine Kd.C_drewN ?_ _) | (with_reducible refine Kd.C_drew ?_))); (case side2 => exact HC1.out); rintro e w7 ⟨v469, rfl, ho0, hb⟩; refine ⟨_, rfl, ?_⟩; have n0_ := A_ (Kd.R_lower ho0 (below_size z0_)); have n1_ := A_ (below_step z0_ hb); clear HB; have HO470 := n0_; have HB := n1_; clear n0_ n1_; (try clear hb); (try clear hb2); (try clear hk); (try clear hi); (try clear ho0))); go_ret2; exact ⟨_, z10_, by (with_reducible repeat (first | apply Kd.R_alloc | apply Kd.R_drewN | apply Kd.R_drew)); exact HO470.out, z0_⟩
  · replace c4 := Bool.eq_false_iff.mpr c4; subst c4; (have H1 : (some ((([] : List Int)), 1)) = some (r1, r2) := z17_); clear H; have H := H1; clear H1; obtain ⟨y471, hy471⟩ : ∃ y_ : List Int, y_ = (([] : List Int)) := ⟨_, rfl⟩; (replace H : (some (y471, 1)) = some (r1, r2) := by first | (rw [hy471]; with_reducible exact H) | (have H2_ := (Option.bind_some _ _).symm.trans H; rw [hy471]; with_reducible exact H2_) | (have H2_ := (Option.bind_some _ _).symm.trans H; with_reducible exact H2_) | with_reducible exact H | (rw [hy471]; exact H) | exact H); have Ny471 := A_ hy471; clear hy471; simp only [Option.some.injEq, Prod.mk.injEq] at H; obtain ⟨rfl, rfl⟩ := H; go_enter Try.func49, Try.ntmps49; go_wp2_with (first | ((with_reducible refine gate_callee (f := 59) rfl ?_); refine goesL_ (some 8) rfl rfl Try.func59 z13_ rfl #[.int .i64 a0, .slice A1 l1.length c1] rfl z2_ ?_; (with_reducible refine (spec_l02Ok.calls k a0 _ _ l1 false _ ?side1 ?side2 A3.out).mono ?_); (case side1 => repeat (first | exact HR1.out | (with_reducible refine Kd.C_alloc ?_ _) | (with_reducible refine Kd.C_drewN ?_ _) | (with_reducible refine Kd.C_drew ?_))); (case side2 => exact HC1.out); rintro e w8 ⟨rfl, hb⟩; refine ⟨_, rfl, ?_⟩; have n0_ := A_ (below_step z0_ hb); clear HB; have HB := n0_; clear n0_; (try clear hb); (try clear hb2); (try clear hk); (try clear hi)) | ((with_reducible refine gate_dst (N := 10) rfl ?_); refine Kd.R_lit (Kd.int .i64) _ 2 ?hg (N := 10) ?hd (xs := ([] : List Int)) (inner := []) (ok := fun _ => True) (okp := fun _ => True) ?hr ?hp (fun _ hk => hk) trivial (Below.refl _ _) (Nat.le_refl _) (by simp) ?_; (case hd => rfl); (case hg => rfl); (case hr => first | (go_simp; done) | (go_simp; rfl)); (case hp => exact (Reps.none _ _)); intro v472 w9 ho10 hb hg_ hnew_; clear hg_ hnew_; (first | rw [← Ny471.out] at ho10 | (simp only [Int.reduceToNat] at ho10; rw [← Ny471.out] at ho10)); have n0_ := A_ (Kd.R_lower ho10 (below_size z0_)); have n1_ := A_ (below_step z0_ hb); clear HB; have HO473 := n0_; have HB := n1_; clear n0_ n1_; clear hb ho10)); go_ret2; exact ⟨_, z10_, by (with_reducible repeat (first | apply Kd.R_alloc | apply Kd.R_drewN | apply Kd.R_drew)); exact HO473.out, z0_⟩

/-! ### impl_NetsOf: function 50 -/
def impl_NetsOf.f (k : Nat) (a0 : Int) (l1 : List (S65)) : Option (List Int × Int) := (impl_ValidDebts.f k a0 l1).bind fun t474 => (if t474 = true then ((impl_nets.f k a0 l1).bind fun t475 => (some (t475, 0))) else (some (([] : List Int), 1)))
theorem impl_NetsOf.mono : ∀ a0 a1 k, LeO (impl_NetsOf.f k a0 a1) (impl_NetsOf.f (k + 1) a0 a1) := by
  intro a0 a1 k; unfold impl_NetsOf.f
  repeat' first
      | (with_reducible exact impl_ValidDebts.mono _ _ _)
      | (with_reducible exact impl_nets.mono _ _ _)
      | (with_reducible exact LeO.refl _)
      | (with_reducible exact LeO.none _)
      | (with_reducible refine LeO.ite ?_ ?_)
      | (with_reducible refine LeO.bind ?_ (fun _ => ?_))
      | exact impl_ValidDebts.mono _ _ _
      | exact impl_nets.mono _ _ _
      | exact LeO.none _
      | refine LeO.ite ?_ ?_
      | refine LeO.bind ?_ (fun _ => ?_)
set_option maxHeartbeats 8000000 in
set_option maxRecDepth 100000 in
theorem impl_NetsOf.calls (k : Nat) (a0 : Int) (A1 : Option Addr) (c1 : Nat) (l1 : List (S65)) (r1 : List Int) (r2 : Int) (w : World) (hr1 : Kd.C k65 w A1 l1.length l1) (hc1 : l1.length ≤ c1) (h : impl_NetsOf.f k a0 l1 = some (r1, r2)) :
    Calls Try.prog 50 #[.int .i64 a0, .slice A1 l1.length c1] w fun e w' => ∃ v0_ : Value, e = .returned (.tuple #[v0_, .int .i64 r2]) ∧ Kd.R (Kd.int .i64) 2 w' w.heap.size (fun _ => True) v0_ r1 ∧ Below w.heap.size w w' := by
  have HR1 := A_ hr1; have HC1 := A_ hc1; clear hr1 hc1; have HB := A_ (Below.refl w.heap.size w); have H : ((impl_ValidDebts.f k a0 l1).bind fun t474 => (if t474 = true then ((impl_nets.f k a0 l1).bind fun t475 => (some (t475, 0))) else (some (([] : List Int), 1)))) = some (r1, r2) := h; clear h; replace H := Option.bind_eq_some_iff.mp H; obtain ⟨t474, A30, H⟩ := H; replace H : (if t474 = true then ((impl_nets.f k a0 l1).bind fun t475 => (some (t475, 0))) else (some (([] : List Int), 1))) = some (r1, r2) := H; have A3 := A_ A30; clear A30; by_cases c4 : t474 = true
  · subst c4; (have H1 : ((impl_nets.f k a0 l1).bind fun t475 => (some (t475, 0))) = some (r1, r2) := z36_); clear H; have H := H1; clear H1; replace H := Option.bind_eq_some_iff.mp H; obtain ⟨t475, A50, H⟩ := H; replace H : (some (t475, 0)) = some (r1, r2) := H; have A5 := A_ A50; clear A50; simp only [Option.some.injEq, Prod.mk.injEq] at H; obtain ⟨rfl, rfl⟩ := H; go_enter Try.func50, Try.ntmps50; go_wp2_with (first | ((with_reducible refine gate_callee (f := 61) rfl ?_); refine goesL_ (some 8) rfl rfl Try.func61 z13_ rfl #[.int .i64 a0, .slice A1 l1.length c1] rfl z2_ ?_; (with_reducible refine (impl_ValidDebts.calls k a0 _ _ l1 true _ ?side1 ?side2 A3.out).mono ?_); (case side1 => repeat (first | exact HR1.out | (with_reducible refine Kd.C_alloc ?_ _) | (with_reducible refine Kd.C_drewN ?_ _) | (with_reducible refine Kd.C_drew ?_))); (case side2 => exact HC1.out); rintro e w6 ⟨rfl, hb⟩; refine ⟨_, rfl, ?_⟩; have n0_ := A_ (below_step z0_ hb); clear HB; have HB := n0_; clear n0_; (try clear hb); (try clear hb2); (try clear hk); (try clear hi)) | ((with_reducible refine gate_callee (f := 76) rfl ?_); refine goesL_ (some 12) rfl rfl Try.func76 z13_ rfl #[.int .i64 a0, .slice A1 l1.length c1] rfl z2_ ?_; (with_reducible refine (impl_nets.calls k a0 _ _ l1 t475 _ ?side1 ?side2 A5.out).mono ?_); (case side1 => repeat (first | exact (Kd.C_below HR1.out HB.out) | (with_reducible refine Kd.C_alloc ?_ _) | (with_reducible refine Kd.C_drewN ?_ _) | (with_reducible refine Kd.C_drew ?_))); (case side2 => exact HC1.out); rintro e w7 ⟨v476, rfl, ho0, hb⟩; refine ⟨_, rfl, ?_⟩; have n0_ := A_ (Kd.R_lower ho0 (below_size z0_)); have n1_ := A_ (below_step z0_ hb); clear HB; have HO477 := n0_; have HB := n1_; clear n0_ n1_; (try clear hb); (try clear hb2); (try clear hk); (try clear hi); (try clear ho0))); go_ret2; exact ⟨_, z10_, by (with_reducible repeat (first | apply Kd.R_alloc | apply Kd.R_drewN | apply Kd.R_drew)); exact HO477.out, z0_⟩
  · replace c4 := Bool.eq_false_iff.mpr c4; subst c4; (have H1 : (some (([] : List Int), 1)) = some (r1, r2) := z17_); clear H; have H := H1; clear H1; simp only [Option.some.injEq, Prod.mk.injEq] at H; obtain ⟨rfl, rfl⟩ := H; go_enter Try.func50, Try.ntmps50; go_wp2_with (first | ((with_reducible refine gate_callee (f := 61) rfl ?_); refine goesL_ (some 8) rfl rfl Try.func61 z13_ rfl #[.int .i64 a0, .slice A1 l1.length c1] rfl z2_ ?_; (with_reducible refine (impl_ValidDebts.calls k a0 _ _ l1 false _ ?side1 ?side2 A3.out).mono ?_); (case side1 => repeat (first | exact HR1.out | (with_reducible refine Kd.C_alloc ?_ _) | (with_reducible refine Kd.C_drewN ?_ _) | (with_reducible refine Kd.C_drew ?_))); (case side2 => exact HC1.out); rintro e w8 ⟨rfl, hb⟩; refine ⟨_, rfl, ?_⟩; have n0_ := A_ (below_step z0_ hb); clear HB; have HB := n0_; clear n0_; (try clear hb); (try clear hb2); (try clear hk); (try clear hi))); go_ret2; exact ⟨_, z10_, z23_, z0_⟩

end Go.Proofs.Ytofcgkcpkngocaa.MCircles
