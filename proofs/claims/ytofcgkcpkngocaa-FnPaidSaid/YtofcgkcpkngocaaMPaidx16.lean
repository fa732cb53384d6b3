-- by a program of this session, for this claim
import Derived.Test.YtofcgkcpkngocaaMPaidx0
import Derived.Test.YtofcgkcpkngocaaMPaidx5
namespace Go.Proofs.Ytofcgkcpkngocaa.MPaid
open Go.RowKit Go.Proofs.YtofcgkcpkngocaaW.PrintWords Go.Proofs.YtofcgkcpkngocaaW.PrintLast Go.Proofs.YtofcgkcpkngocaaW.PrintMore
attribute [local go_sem] max2_int min2_int max_two min_two max_three min_three max_four min_four   -- for this text's walks alone
set_option linter.unusedVariables false
set_option linter.unusedSimpArgs false

/-! ### impl_nets: function 76 -/
def impl_nets.l0 : Nat → List Int → List (S65) → Int → Int → Option (List Int)
  | 0, _, _, _, _ => none
  | k + 1, x5, x10, x11, x12 => if x12 < x11 then (if 0 ≤ x12 then (if x12 < (x10.length : Int) then (if 0 ≤ ((rd_T65 x10 x12).f0) then (if ((rd_T65 x10 x12).f0) < (x5.length : Int) then ((some (x5.set (((rd_T65 x10 x12).f0) : Int).toNat (wrap64 ((rd x5 ((rd_T65 x10 x12).f0)) - ((rd_T65 x10 x12).f2))) : List Int)).bind fun y369 => (if 0 ≤ ((rd_T65 x10 x12).f1) then (if ((rd_T65 x10 x12).f1) < (x5.length : Int) then (impl_nets.l0 k (y369.set (((rd_T65 x10 x12).f1) : Int).toNat (wrap64 ((rd y369 ((rd_T65 x10 x12).f1)) + ((rd_T65 x10 x12).f2)))) x10 x11 (wrap64 (x12 + 1))) else (none)) else (none))) else (none)) else (none)) else (none)) else (none)) else (some x5)
def impl_nets.f (k : Nat) (a0 : Int) (l1 : List (S65)) : Option (List Int) := if 0 ≤ a0 then (if (a0 : Int).toNat ≤ 35184372088832 then (impl_nets.l0 k (List.replicate (a0 : Int).toNat 0) l1 (l1.length : Int) 0) else (none)) else (none)
theorem impl_nets.mono_l : ∀ k, (∀ y0 y1 y2 y3, LeO (impl_nets.l0 k y0 y1 y2 y3) (impl_nets.l0 (k + 1) y0 y1 y2 y3))
  | 0 => fun _ _ _ _ r h => by simp [impl_nets.l0] at h
  | k + 1 => by
    have ih0 := impl_nets.mono_l k
    · intro y0 y1 y2 y3
      unfold impl_nets.l0
      repeat' first
      | (with_reducible exact ih0 _ _ _ _)
      | (with_reducible exact LeO.refl _)
      | (with_reducible exact LeO.none _)
      | (with_reducible refine LeO.ite ?_ ?_)
      | (with_reducible refine LeO.bind ?_ (fun _ => ?_))
      | exact ih0 _ _ _ _
      | exact LeO.none _
      | refine LeO.ite ?_ ?_
      | refine LeO.bind ?_ (fun _ => ?_)
theorem impl_nets.mono : ∀ a0 a1 k, LeO (impl_nets.f k a0 a1) (impl_nets.f (k + 1) a0 a1) := by
  intro a0 a1 k; have ih0 := impl_nets.mono_l k; unfold impl_nets.f
  repeat' first
      | (with_reducible exact ih0 _ _ _ _)
      | (with_reducible exact LeO.refl _)
      | (with_reducible exact LeO.none _)
      | (with_reducible refine LeO.ite ?_ ?_)
      | (with_reducible refine LeO.bind ?_ (fun _ => ?_))
      | exact ih0 _ _ _ _
      | exact LeO.none _
      | refine LeO.ite ?_ ?_
      | refine LeO.bind ?_ (fun _ => ?_)
def impl_nets.T5 : Bool × List (List Nat × List Nat) := (true, [([], []), ([], []), ([1], [1]), ([0, 2], [0, 2]), ([3], [3]), ([], []), ([5], [5]), ([4, 6], [4, 6]), ([0, 2, 0, 1, 2, 3, 4, 5, 6, 7], [0, 2]), ([8, 7, 0, 1, 2, 3, 4, 5, 6, 7], [7, 8])])
def impl_nets.B5 : List Nat := [0, 0, 2, 7, 15, 0, 32, 127, 255, 511]
theorem impl_nets.tab5 : rtab .any (opsOf Try.f76 5) = impl_nets.T5 := by kernel_rfl
theorem impl_nets.bits5 : waitsOk impl_nets.T5.2 impl_nets.B5 = true := by kernel_rfl
def impl_nets.T6 : Bool × List (List Nat × List Nat) := (true, [([], []), ([], []), ([1], [1]), ([0, 2], [0, 2]), ([3], [3]), ([], []), ([5], [5]), ([4, 6], [4, 6]), ([0, 2, 0, 1, 2, 3, 4, 5, 6, 7], [0, 2]), ([8, 7, 0, 1, 2, 3, 4, 5, 6, 7], [7, 8])])
def impl_nets.B6 : List Nat := [0, 0, 2, 7, 15, 0, 32, 127, 255, 511]
theorem impl_nets.tab6 : rtab .any (opsOf Try.f76 6) = impl_nets.T6 := by kernel_rfl
theorem impl_nets.bits6 : waitsOk impl_nets.T6.2 impl_nets.B6 = true := by kernel_rfl
set_option maxHeartbeats 8000000 in
set_option maxRecDepth 100000 in
theorem impl_nets.calls (k : Nat) (a0 : Int) (A1 : Option Addr) (c1 : Nat) (l1 : List (S65)) (r : List Int) (w : World) (hr1 : Kd.C k65 w A1 l1.length l1) (hc1 : l1.length ≤ c1) (h : impl_nets.f k a0 l1 = some r) :
    Calls Try.prog 76 #[.int .i64 a0, .slice A1 l1.length c1] w fun e w' => ∃ v0_ : Value, e = .returned (v0_) ∧ Kd.R (Kd.int .i64) 2 w' w.heap.size (fun _ => True) v0_ r ∧ Below w.heap.size w w' := by
  have hu65 := Try.underlying65; have HR1 := Aside0.mk hr1; have HC1 := Aside0.mk hc1; clear hr1 hc1; have HB := Aside0.mk (Below.refl w.heap.size w); have H : (if 0 ≤ a0 then (if (a0 : Int).toNat ≤ 35184372088832 then (impl_nets.l0 k (List.replicate (a0 : Int).toNat 0) l1 (l1.length : Int) 0) else (none)) else (none)) = some r := h; clear h; by_cases c3 : 0 ≤ a0
  · rw [if_pos c3] at H; have c3b0 := eq_true c3; have c3b1 : decide (0 ≤ a0) = true := decide_eq_true c3; clear c3; by_cases c4 : (a0 : Int).toNat ≤ 35184372088832
    · rw [if_pos c4] at H; have c4b0 := eq_true c4; have c4b1 : decide ((a0 : Int).toNat ≤ 35184372088832) = true := decide_eq_true c4; clear c4; obtain ⟨y363, hy363⟩ : ∃ y_ : List Int, y_ = (List.replicate (a0 : Int).toNat 0) := ⟨_, rfl⟩; (replace H : (impl_nets.l0 k y363 l1 (l1.length : Int) 0) = some r := by first | (rw [hy363]; with_reducible exact H) | (have H2_ := (Option.bind_some _ _).symm.trans H; rw [hy363]; with_reducible exact H2_) | (have H2_ := (Option.bind_some _ _).symm.trans H; with_reducible exact H2_) | with_reducible exact H | (rw [hy363]; exact H) | exact H); have Ny363 := Aside0.mk hy363; clear hy363; have H' := Aside0.mk H; clear H; go_enter Try.func76, Try.ntmps76; go_wp2_with (first | ((with_reducible refine gate_dst (N := 9) rfl ?_); refine Kd.R_make (Kd.int .i64) _ 2 rfl (N := 9) rfl 34 _ _ rfl a0 rfl rfl Try.underlying34 (.int .i64 0) 8 info2 rfl (by decide) (by omega) 0 (ok := fun _ => True) (okp := fun _ => True) rfl (fun _ hk => hk) trivial (of_decide_eq_true z1_) (Nat.le_trans (Nat.mul_le_mul_right _ (of_decide_eq_true (z1_) : a0.toNat ≤ 35184372088832)) (by omega)) (Below.refl _ _) (Nat.le_refl _) ?_; intro v364 w5 ho6 hb hg_ hnew_; clear hg_ hnew_; (first | rw [← Ny363.out] at ho6 | (simp only [Int.reduceToNat] at ho6; rw [← Ny363.out] at ho6)); have n0_ := Aside0.mk (Kd.R_lower ho6 (below_size z0_)); have n1_ := Aside0.mk (below_step z0_ hb); clear HB; have HO365 := n0_; have HB := n1_; clear n0_ n1_; clear hb ho6)); go_loopg [12] k (fun kq v12 w' => ∃ (x5_1 : List Int) (x12_1 : Int), v12 = .int .i64 x12_1 ∧ Aside0 (impl_nets.l0 kq x5_1 l1 (l1.length : Int) x12_1 = some r) ∧ Aside0 (kq ≤ k) ∧ Aside0 (Kd.R (Kd.int .i64) 2 w' w.heap.size (fun _ => True) v364 x5_1) ∧ Aside0 (Below w.heap.size w w'))
      case atStart => exact ⟨(y363), (0), z5_, H', ⟨Nat.le_refl _⟩, ⟨by (with_reducible repeat (first | apply Kd.R_alloc | apply Kd.R_drewN | apply Kd.R_drew)); exact HO365.out⟩, ⟨z0_⟩⟩
      case round =>
        clear H'; (try clear c1); (try clear p2); (try clear c3); (try clear c3b0); (try clear c3b1); (try clear c4); (try clear c4b0); (try clear c4b1); obtain ⟨x5_1, x12_1, rfl, HA, HK1, HO_5, HB⟩ := hrel
        cases gk with
        | zero => exact absurd HA.out (by simp [impl_nets.l0])
        | succ k1 =>
          have H := HA.out; clear HA; simp only [impl_nets.l0] at H; by_cases c7 : x12_1 < (l1.length : Int)
          · rw [if_pos c7] at H; have c7b0 : decide (x12_1 < (l1.length : Int)) = true := decide_eq_true c7; clear c7; by_cases c8 : 0 ≤ x12_1
            · rw [if_pos c8] at H; have c8b0 : decide (0 ≤ x12_1) = true := decide_eq_true c8; clear c8; by_cases c9 : x12_1 < (l1.length : Int)
              · rw [if_pos c9] at H; have c9b0 : decide (x12_1 < (l1.length : Int)) = true := decide_eq_true c9; clear c9; by_cases c10 : 0 ≤ ((rd_T65 l1 x12_1).f0)
                · rw [if_pos c10] at H; have c10b0 : decide (0 ≤ ((rd_T65 l1 x12_1).f0)) = true := decide_eq_true c10; clear c10; by_cases c11 : ((rd_T65 l1 x12_1).f0) < (x5_1.length : Int)
                  · rw [if_pos c11] at H; have c11b0 : decide (((rd_T65 l1 x12_1).f0) < (x5_1.length : Int)) = true := decide_eq_true c11; clear c11; obtain ⟨y369, hy369⟩ : ∃ y_ : List Int, y_ = (x5_1.set (((rd_T65 l1 x12_1).f0) : Int).toNat (wrap64 ((rd x5_1 ((rd_T65 l1 x12_1).f0)) - ((rd_T65 l1 x12_1).f2)))) := ⟨_, rfl⟩; (replace H : (if 0 ≤ ((rd_T65 l1 x12_1).f1) then (if ((rd_T65 l1 x12_1).f1) < (x5_1.length : Int) then (impl_nets.l0 k1 (y369.set (((rd_T65 l1 x12_1).f1) : Int).toNat (wrap64 ((rd y369 ((rd_T65 l1 x12_1).f1)) + ((rd_T65 l1 x12_1).f2)))) l1 (l1.length : Int) (wrap64 (x12_1 + 1))) else (none)) else (none)) = some r := by first | (rw [hy369]; with_reducible exact H) | (have H2_ := (Option.bind_some _ _).symm.trans H; rw [hy369]; with_reducible exact H2_) | (have H2_ := (Option.bind_some _ _).symm.trans H; with_reducible exact H2_) | with_reducible exact H | (rw [hy369]; exact H) | exact H); have Ny369 := Aside0.mk hy369; clear hy369; by_cases c13 : 0 ≤ ((rd_T65 l1 x12_1).f1)
                    · rw [if_pos c13] at H; have c13b0 : decide (0 ≤ ((rd_T65 l1 x12_1).f1)) = true := decide_eq_true c13; clear c13; by_cases c14 : ((rd_T65 l1 x12_1).f1) < (x5_1.length : Int)
                      · rw [if_pos c14] at H; have c14b0 : decide (((rd_T65 l1 x12_1).f1) < (x5_1.length : Int)) = true := decide_eq_true c14; clear c14; obtain ⟨y371, hy371⟩ : ∃ y_ : List Int, y_ = (y369.set (((rd_T65 l1 x12_1).f1) : Int).toNat (wrap64 ((rd y369 ((rd_T65 l1 x12_1).f1)) + ((rd_T65 l1 x12_1).f2)))) := ⟨_, rfl⟩; (replace H : (impl_nets.l0 k1 y371 l1 (l1.length : Int) (wrap64 (x12_1 + 1))) = some r := by first | (rw [hy371]; with_reducible exact H) | (have H2_ := (Option.bind_some _ _).symm.trans H; rw [hy371]; with_reducible exact H2_) | (have H2_ := (Option.bind_some _ _).symm.trans H; with_reducible exact H2_) | with_reducible exact H | (rw [hy371]; exact H) | exact H); have Ny371 := Aside0.mk hy371; clear hy371; have H' := Aside0.mk H; clear H; have p366 : 0 ≤ (x12_1 : Int) := of_decide_eq_true z1_; have q366 : x12_1 < (l1.length : Int) := of_decide_eq_true z1_; obtain ⟨ad366, e366, hx366_0, hx366_1, hx366_2⟩ := at_T65 HR1.out x12_1 p366 q366; cases e366; replace hx366_0 := (HB.out.cell (World.block_lt_of_cell? w _ hx366_0)).trans hx366_0; replace hx366_1 := (HB.out.cell (World.block_lt_of_cell? w _ hx366_1)).trans hx366_1; replace hx366_2 := (HB.out.cell (World.block_lt_of_cell? w _ hx366_2)).trans hx366_2; replace p366 := eq_true p366; replace q366 := eq_true q366; (try go_wp2_with (first | ((with_reducible refine gate_dst (N := 7) rfl ?_); refine box_event ?hg (N := 7) ?hd (cs := #[.int .i64 0, .int .i64 0, .int .i64 0]) (t := 65) ?hr ?_; (case hd => rfl); (case hg => rfl); (case hr => first | (go_simp; done) | (go_simp; rfl)); intro gb367 hg w16 hbox hb; have n0_ := Aside0.mk (Kd.R_below z46_ hb); have n1_ := Aside0.mk (below_step z0_ hb); have n2_ := Aside0.mk (hbox); have n3_ := Aside0.mk ((by rw [hg]; exact (below_size z0_) : w.heap.size ≤ gb367)); have n4_ := Aside0.mk ((by rw [hg]; exact (below_size z0_) : w.heap.size ≤ gb367)); clear HO_5; clear HB; have HO_5 := n0_; have HB := n1_; have BK367 := n2_; have GW367 := n3_; have GE367 := n4_; clear n0_ n1_ n2_ n3_ n4_; clear hb hbox hg; have hcz17_0 : w16.cell? ⟨gb367, 0, none⟩ = some (.int .i64 0) := (blk_cell BK367.out 0).trans rfl; have hcz17_1 : w16.cell? ⟨gb367, 1, none⟩ = some (.int .i64 0) := (blk_cell BK367.out 1).trans rfl; have hcz17_2 : w16.cell? ⟨gb367, 2, none⟩ = some (.int .i64 0) := (blk_cell BK367.out 2).trans rfl; have hfz17_0 := blk_frozen BK367.out 0; have hfz17_1 := blk_frozen BK367.out 1; have hfz17_2 := blk_frozen BK367.out 2))); have n0_ : Aside0 (Kd.R (Kd.int .i64) 2 (((w16.setCell ⟨gb367, 0, none⟩ (.int .i64 ((rd_T65 l1 x12_1).f0))).setCell ⟨gb367, 1, none⟩ (.int .i64 ((rd_T65 l1 x12_1).f1))).setCell ⟨gb367, 2, none⟩ (.int .i64 ((rd_T65 l1 x12_1).f2))) w.heap.size (fun _ => True) v364 x5_1) := ⟨by (with_reducible repeat (first | apply Kd.R_alloc | apply Kd.R_drewN | apply Kd.R_drew)); exact Kd.R_mono (Kd.R_far (p := ⟨gb367, 2, none⟩) (Kd.R_far (p := ⟨gb367, 1, none⟩) (Kd.R_far (p := ⟨gb367, 0, none⟩) (Kd.R_types HO_5.out BK367.out (by decide)) (fun _ hk => hk.2) (.int .i64 ((rd_T65 l1 x12_1).f0))) (fun _ hk => hk.2) (.int .i64 ((rd_T65 l1 x12_1).f1))) (fun _ hk => hk.2) (.int .i64 ((rd_T65 l1 x12_1).f2))) (fun _ hk => trivial)⟩; have n1_ : Aside0 ((((w16.setCell ⟨gb367, 0, none⟩ (.int .i64 ((rd_T65 l1 x12_1).f0))).setCell ⟨gb367, 1, none⟩ (.int .i64 ((rd_T65 l1 x12_1).f1))).setCell ⟨gb367, 2, none⟩ (.int .i64 ((rd_T65 l1 x12_1).f2))).heap[gb367]? = some (.cells #[.int .i64 ((rd_T65 l1 x12_1).f0), .int .i64 ((rd_T65 l1 x12_1).f1), .int .i64 ((rd_T65 l1 x12_1).f2)] 65 (0, 0))) := ⟨by (with_reducible repeat (first | refine blk_drewN ?_ _ | refine blk_drew ?_ | refine blk_alloc ?_ _)); refine blk_put (cs := #[.int .i64 ((rd_T65 l1 x12_1).f0), .int .i64 ((rd_T65 l1 x12_1).f1), .int .i64 0]) ?_ 2 _ rfl; (with_reducible repeat (first | refine blk_drewN ?_ _ | refine blk_drew ?_ | refine blk_alloc ?_ _)); refine blk_put (cs := #[.int .i64 ((rd_T65 l1 x12_1).f0), .int .i64 0, .int .i64 0]) ?_ 1 _ rfl; (with_reducible repeat (first | refine blk_drewN ?_ _ | refine blk_drew ?_ | refine blk_alloc ?_ _)); refine blk_put (cs := #[.int .i64 0, .int .i64 0, .int .i64 0]) ?_ 0 _ rfl; (with_reducible repeat (first | refine blk_drewN ?_ _ | refine blk_drew ?_ | refine blk_alloc ?_ _)); exact BK367.out⟩; have n2_ : Aside0 (Below w.heap.size w (((w16.setCell ⟨gb367, 0, none⟩ (.int .i64 ((rd_T65 l1 x12_1).f0))).setCell ⟨gb367, 1, none⟩ (.int .i64 ((rd_T65 l1 x12_1).f1))).setCell ⟨gb367, 2, none⟩ (.int .i64 ((rd_T65 l1 x12_1).f2)))) := ⟨by repeat (first | (with_reducible first | exact HB.out | apply below_alloc | apply pw_below_drewN | apply below_drew1 | refine below_set ?_ GE367.out) | exact HB.out)⟩; (try clear HO_5); (try clear BK367); (try clear HB); generalize (((w16.setCell ⟨gb367, 0, none⟩ (.int .i64 ((rd_T65 l1 x12_1).f0))).setCell ⟨gb367, 1, none⟩ (.int .i64 ((rd_T65 l1 x12_1).f1))).setCell ⟨gb367, 2, none⟩ (.int .i64 ((rd_T65 l1 x12_1).f2))) = w18 at n0_ n1_ n2_ ⊢; have HO_5 := n0_; have BK367 := n1_; have HB := n2_; clear n0_ n1_ n2_; have n0_ := Aside0.mk (Kd.R_drew HO_5.out); have n1_ := Aside0.mk (blk_drew BK367.out); have n2_ := Aside0.mk (below_drew1 HB.out); clear HO_5; clear BK367; clear HB; have HO_5 := n0_; have BK367 := n1_; have HB := n2_; clear n0_ n1_ n2_; obtain ⟨Ao20, co20, eo20⟩ := Kd.R_slice HO_5.out; (first | subst eo20 | (injection eo20 with f1_ f2_ f3_; have f4_ := f1_.symm; have f5_ := f3_.symm; clear f1_ f2_ f3_; subst f4_; subst f5_)); have p368 : 0 ≤ (((rd_T65 l1 x12_1).f0) : Int) := of_decide_eq_true z1_; have q368 : ((rd_T65 l1 x12_1).f0) < (x5_1.length : Int) := of_decide_eq_true z1_; obtain ⟨ad368, e368, hx368_0⟩ := Kd.at_int (Kd.R_reads' HO_5.out).2.2 ((rd_T65 l1 x12_1).f0) p368 q368; cases e368; replace p368 := eq_true p368; replace q368 := eq_true q368; have p12 : 0 ≤ (((rd_T65 l1 x12_1).f0) : Int) := of_decide_eq_true z1_; have q12 : (((rd_T65 l1 x12_1).f0) : Int) < ((x5_1.length : Int) : Int) := of_decide_eq_true z1_; obtain ⟨go12, co12, eo12, gb12, gl12, cl12, HG12⟩ := Kd.R_form HO_5.out (by omega); (first | cases eo12 | (injection eo12 with ea_ en_ ec_; (first | subst ea_ | (injection ea_ with ea_; subst ea_)); subst ec_; clear en_)); have GB12 := Aside0.mk gb12; have GG12 := Aside0.mk HG12; clear gb12 gl12 HG12; (first | simp only [add_plain] at hx368_0 | skip); obtain ⟨hx12_0, hf12_0⟩ := Kd.R_celln 0 HO_5.out (((rd_T65 l1 x12_1).f0) : Int) p12 q12; replace p12 := eq_true p12; replace q12 := eq_true q12; have HP21 := Kd.R_putn HO_5.out (((rd_T65 l1 x12_1).f0) : Int) (wrap64 ((rd x5_1 ((rd_T65 l1 x12_1).f0)) - ((rd_T65 l1 x12_1).f2))); rw [← Ny369.out] at HP21; have HQ21 := Aside0.mk HP21; clear HP21; refine start_ (n := 10) (S := fun w' => w'.cell? ⟨gb367, 0, none⟩ = some (.int .i64 ((rd_T65 l1 x12_1).f0)) ∧ w'.cell? ⟨gb367, 1, none⟩ = some (.int .i64 ((rd_T65 l1 x12_1).f1)) ∧ w'.cell? ⟨gb367, 2, none⟩ = some (.int .i64 ((rd_T65 l1 x12_1).f2)) ∧ w'.cell? ⟨go12, (((rd_T65 l1 x12_1).f0)).toNat, none⟩ = some (.int .i64 (rd x5_1 ((rd_T65 l1 x12_1).f0)))) (ds := [9]) #[false, false, false, false, false, false, false, false, false, false] z4_ rfl rfl ⟨(blk_cell BK367.out 0).trans rfl, (blk_cell BK367.out 1).trans rfl, (blk_cell BK367.out 2).trans rfl, hx368_0⟩ (fun hHeld => ?_); refine with_tabW impl_nets.tab5 impl_nets.bits5 (fun HT_ HW_ => ?_); generalize w18.drew = w19 at HO_5 BK367 HB GG12 HQ21 hf12_0 hx12_0 hx368_0 hHeld ⊢; refine pure_ (i := 0) (N := some 16) (v := ?_) (a' := ?_) #[true, false, false, false, false, false, false, false, false, false] rfl rfl (any_of HT_.out z4_) (fun _ _ _ h => h) (Or.inl ⟨by rfl, ?_⟩) ?_ ?_; rotate_left
                        · intro w'; go_simp; with_reducible rfl
                        rotate_left
                        · simp only [Act.put, List.setIfInBounds_toArray, List.set_cons_zero, List.set_cons_succ, i64_w, i32_w]; rfl
                        refine pure_ (i := 1) (N := some 17) (v := ?_) (a' := ?_) #[true, true, false, false, false, false, false, false, false, false] rfl rfl (any_of HT_.out z4_) (fun _ _ _ h => h) (Or.inl ⟨by rfl, ?_⟩) ?_ ?_; rotate_left
                        · intro w'; go_simp; with_reducible rfl
                        rotate_left
                        · simp only [Act.put, List.setIfInBounds_toArray, List.set_cons_zero, List.set_cons_succ, i64_w, i32_w]; rfl
                        refine pure_ (i := 5) (N := some 21) (v := ?_) (a' := ?_) #[true, true, false, false, false, true, false, false, false, false] rfl rfl (any_of HT_.out z4_) (fun _ _ _ h => h) (Or.inl ⟨by rfl, ?_⟩) ?_ ?_; rotate_left
                        · intro w'; go_simp; with_reducible rfl
                        rotate_left
                        · simp only [Act.put, List.setIfInBounds_toArray, List.set_cons_zero, List.set_cons_succ, i64_w, i32_w]; rfl
                        refine take_ (i := 2) (N := some 18) (v := ?_) (a' := ?_) #[true, true, true, false, false, true, false, false, false, false] rfl rfl (take_ofW HT_.out HW_.out z4_) (fun _ _ _ h => h) (Or.inl ⟨by rfl, ?_⟩) hHeld ?_ ?_; rotate_left
                        · rintro w' ⟨s0, s1, s2, s3⟩; go_simp; with_reducible rfl
                        rotate_left
                        · simp only [Act.put, List.setIfInBounds_toArray, List.set_cons_zero, List.set_cons_succ, i64_w, i32_w]; rfl
                        refine pure_ (i := 3) (N := some 19) (v := ?_) (a' := ?_) #[true, true, true, true, false, true, false, false, false, false] rfl rfl (any_of HT_.out z4_) (fun _ _ _ h => h) (Or.inl ⟨by rfl, ?_⟩) ?_ ?_; rotate_left
                        · intro w'; go_simp; with_reducible rfl
                        rotate_left
                        · simp only [Act.put, List.setIfInBounds_toArray, List.set_cons_zero, List.set_cons_succ, i64_w, i32_w]; rfl
                        refine take_ (i := 4) (N := some 20) (v := ?_) (a' := ?_) #[true, true, true, true, true, true, false, false, false, false] rfl rfl (take_ofW HT_.out HW_.out z4_) (fun _ _ _ h => h) (Or.inl ⟨by rfl, ?_⟩) hHeld ?_ ?_; rotate_left
                        · rintro w' ⟨s0, s1, s2, s3⟩; go_simp; with_reducible rfl
                        rotate_left
                        · simp only [Act.put, List.setIfInBounds_toArray, List.set_cons_zero, List.set_cons_succ, i64_w, i32_w]; rfl
                        refine take_ (i := 6) (N := some 22) (v := ?_) (a' := ?_) #[true, true, true, true, true, true, true, false, false, false] rfl rfl (take_ofW HT_.out HW_.out z4_) (fun _ _ _ h => h) (Or.inl ⟨by rfl, ?_⟩) hHeld ?_ ?_; rotate_left
                        · rintro w' ⟨s0, s1, s2, s3⟩; go_simp; with_reducible rfl
                        rotate_left
                        · simp only [Act.put, List.setIfInBounds_toArray, List.set_cons_zero, List.set_cons_succ, i64_w, i32_w]; rfl
                        refine pure_ (i := 7) (N := some 23) (v := ?_) (a' := ?_) #[true, true, true, true, true, true, true, true, false, false] rfl rfl (any_of HT_.out z4_) (fun _ _ _ h => h) (Or.inl ⟨by rfl, ?_⟩) ?_ ?_; rotate_left
                        · intro w'; go_simp; with_reducible rfl
                        rotate_left
                        · simp only [Act.put, List.setIfInBounds_toArray, List.set_cons_zero, List.set_cons_succ, i64_w, i32_w]; rfl
                        refine pure_ (i := 8) (N := some 24) (v := ?_) (a' := ?_) #[true, true, true, true, true, true, true, true, true, false] rfl rfl (any_of HT_.out z4_) (fun _ _ _ h => h) (Or.inl ⟨by rfl, ?_⟩) ?_ ?_; rotate_left
                        · intro w'; go_simp; with_reducible rfl
                        rotate_left
                        · simp only [Act.put, List.setIfInBounds_toArray, List.set_cons_zero, List.set_cons_succ, i64_w, i32_w]; rfl
                        refine last_ (i := 9) (N := none) #[true, true, true, true, true, true, true, true, true, true] rfl rfl (one_of HT_.out z4_) (by decide) (fun K hK => ?_); refine skip_ (w1 := ?_) (by rfl) rfl ?_ ?_; rotate_left
                        · go_simp; rfl
                        refine hK.out _ _ ?_; clear hK K; refine done_ (done_of HT_.out z4_) ?_; (try go_wp2); have n0_ : Aside0 (Kd.R (Kd.int .i64) 2 (w19.setCell ⟨go12, (((rd_T65 l1 x12_1).f0) : Int).toNat, none⟩ (.int .i64 (wrap64 ((rd x5_1 ((rd_T65 l1 x12_1).f0)) - ((rd_T65 l1 x12_1).f2))))) w.heap.size (fun _ => True) (.slice (some ⟨go12, 0, none⟩) x5_1.length co20) y369) := ⟨by (with_reducible repeat (first | apply Kd.R_alloc | apply Kd.R_drewN | apply Kd.R_drew)); exact HQ21.out⟩; have n1_ : Aside0 ((w19.setCell ⟨go12, (((rd_T65 l1 x12_1).f0) : Int).toNat, none⟩ (.int .i64 (wrap64 ((rd x5_1 ((rd_T65 l1 x12_1).f0)) - ((rd_T65 l1 x12_1).f2))))).heap[gb367]? = some (.cells #[.int .i64 ((rd_T65 l1 x12_1).f0), .int .i64 ((rd_T65 l1 x12_1).f1), .int .i64 ((rd_T65 l1 x12_1).f2)] 65 (0, 0))) := ⟨by (with_reducible repeat (first | refine blk_drewN ?_ _ | refine blk_drew ?_ | refine blk_alloc ?_ _)); refine blk_far ?_ (by have h_ := Kd.R_ne HO_5.out BK367.out (by decide); intro e_; exact h_ (by rw [e_]; rfl)) _; (with_reducible repeat (first | refine blk_drewN ?_ _ | refine blk_drew ?_ | refine blk_alloc ?_ _)); exact BK367.out⟩; have n2_ : Aside0 (Below w.heap.size w (w19.setCell ⟨go12, (((rd_T65 l1 x12_1).f0) : Int).toNat, none⟩ (.int .i64 (wrap64 ((rd x5_1 ((rd_T65 l1 x12_1).f0)) - ((rd_T65 l1 x12_1).f2)))))) := ⟨by repeat (first | (with_reducible first | exact HB.out | apply below_alloc | apply pw_below_drewN | apply below_drew1 | refine below_set ?_ GB12.out | refine below_set ?_ GE367.out) | exact HB.out)⟩; (try clear HO_5); (try clear BK367); (try clear HB); generalize (w19.setCell ⟨go12, (((rd_T65 l1 x12_1).f0) : Int).toNat, none⟩ (.int .i64 (wrap64 ((rd x5_1 ((rd_T65 l1 x12_1).f0)) - ((rd_T65 l1 x12_1).f2))))) = w22 at n0_ n1_ n2_ ⊢; have HO_5 := n0_; have BK367 := n1_; have HB := n2_; clear n0_ n1_ n2_; have n0_ := Aside0.mk (Kd.R_drew HO_5.out); have n1_ := Aside0.mk (blk_drew BK367.out); have n2_ := Aside0.mk (below_drew1 HB.out); clear HO_5; clear BK367; clear HB; have HO_5 := n0_; have BK367 := n1_; have HB := n2_; clear n0_ n1_ n2_; have p370 : 0 ≤ (((rd_T65 l1 x12_1).f1) : Int) := of_decide_eq_true z1_; have q370 : ((rd_T65 l1 x12_1).f1) < (y369.length : Int) := (by have h_ : (((rd_T65 l1 x12_1).f1) : Int) < ((x5_1.length : Int) : Int) := of_decide_eq_true z1_; first | (have e_ := (Kd.R_reads' HO_5.out).1; omega) | simpa only [Ny369.out, List.length_set] using h_); have ql370 : ((((rd_T65 l1 x12_1).f1) : Int) < ((x5_1.length : Int) : Int)) = True := eq_true (of_decide_eq_true z1_); obtain ⟨ad370, e370, hx370_0⟩ := Kd.at_int (Kd.R_reads' HO_5.out).2.2 ((rd_T65 l1 x12_1).f1) p370 q370; obtain rfl : (⟨go12, 0, none⟩ : Addr) = ad370 := (by injection e370); (first | simp only [add_plain] at hx370_0 | simp only [add_at] at hx370_0 | simp only [Addr.add, Nat.zero_add] at hx370_0 | skip); replace p370 := eq_true p370; replace q370 := eq_true q370; have p15 : 0 ≤ (((rd_T65 l1 x12_1).f1) : Int) := of_decide_eq_true z1_; have q15 : (((rd_T65 l1 x12_1).f1) : Int) < ((x5_1.length : Int) : Int) := of_decide_eq_true z1_; obtain ⟨hx15_0, hf15_0⟩ := Kd.R_celln 0 HO_5.out (((rd_T65 l1 x12_1).f1) : Int) p15 q15; replace p15 := eq_true p15; replace q15 := eq_true q15; have HP24 := Kd.R_putn HO_5.out (((rd_T65 l1 x12_1).f1) : Int) (wrap64 ((rd y369 ((rd_T65 l1 x12_1).f1)) + ((rd_T65 l1 x12_1).f2))); rw [← Ny371.out] at HP24; have HQ24 := Aside0.mk HP24; clear HP24; refine start_ (n := 10) (S := fun w' => w'.cell? ⟨gb367, 0, none⟩ = some (.int .i64 ((rd_T65 l1 x12_1).f0)) ∧ w'.cell? ⟨gb367, 1, none⟩ = some (.int .i64 ((rd_T65 l1 x12_1).f1)) ∧ w'.cell? ⟨gb367, 2, none⟩ = some (.int .i64 ((rd_T65 l1 x12_1).f2)) ∧ w'.cell? ⟨go12, (((rd_T65 l1 x12_1).f1)).toNat, none⟩ = some (.int .i64 (rd y369 ((rd_T65 l1 x12_1).f1)))) (ds := [9]) #[false, false, false, false, false, false, false, false, false, false] z4_ rfl rfl ⟨(blk_cell BK367.out 0).trans rfl, (blk_cell BK367.out 1).trans rfl, (blk_cell BK367.out 2).trans rfl, hx370_0⟩ (fun hHeld => ?_); refine with_tabW impl_nets.tab6 impl_nets.bits6 (fun HT_ HW_ => ?_); generalize w22.drew = w23 at HO_5 BK367 HB HQ21 HQ24 hf15_0 hx15_0 hx370_0 hHeld ⊢; refine pure_ (i := 0) (N := some 25) (v := ?_) (a' := ?_) #[true, false, false, false, false, false, false, false, false, false] rfl rfl (any_of HT_.out z4_) (fun _ _ _ h => h) (Or.inl ⟨by rfl, ?_⟩) ?_ ?_; rotate_left
                        · intro w'; go_simp; with_reducible rfl
                        rotate_left
                        · simp only [Act.put, List.setIfInBounds_toArray, List.set_cons_zero, List.set_cons_succ, i64_w, i32_w]; rfl
                        refine pure_ (i := 1) (N := some 26) (v := ?_) (a' := ?_) #[true, true, false, false, false, false, false, false, false, false] rfl rfl (any_of HT_.out z4_) (fun _ _ _ h => h) (Or.inl ⟨by rfl, ?_⟩) ?_ ?_; rotate_left
                        · intro w'; go_simp; with_reducible rfl
                        rotate_left
                        · simp only [Act.put, List.setIfInBounds_toArray, List.set_cons_zero, List.set_cons_succ, i64_w, i32_w]; rfl
                        refine pure_ (i := 5) (N := some 30) (v := ?_) (a' := ?_) #[true, true, false, false, false, true, false, false, false, false] rfl rfl (any_of HT_.out z4_) (fun _ _ _ h => h) (Or.inl ⟨by rfl, ?_⟩) ?_ ?_; rotate_left
                        · intro w'; go_simp; with_reducible rfl
                        rotate_left
                        · simp only [Act.put, List.setIfInBounds_toArray, List.set_cons_zero, List.set_cons_succ, i64_w, i32_w]; rfl
                        refine take_ (i := 2) (N := some 27) (v := ?_) (a' := ?_) #[true, true, true, false, false, true, false, false, false, false] rfl rfl (take_ofW HT_.out HW_.out z4_) (fun _ _ _ h => h) (Or.inl ⟨by rfl, ?_⟩) hHeld ?_ ?_; rotate_left
                        · rintro w' ⟨s0, s1, s2, s3⟩; go_simp; with_reducible rfl
                        rotate_left
                        · simp only [Act.put, List.setIfInBounds_toArray, List.set_cons_zero, List.set_cons_succ, i64_w, i32_w]; rfl
                        refine pure_ (i := 3) (N := some 28) (v := ?_) (a' := ?_) #[true, true, true, true, false, true, false, false, false, false] rfl rfl (any_of HT_.out z4_) (fun _ _ _ h => h) (Or.inl ⟨by rfl, ?_⟩) ?_ ?_; rotate_left
                        · intro w'; go_simp; with_reducible rfl
                        rotate_left
                        · simp only [Act.put, List.setIfInBounds_toArray, List.set_cons_zero, List.set_cons_succ, i64_w, i32_w]; rfl
                        refine take_ (i := 4) (N := some 29) (v := ?_) (a' := ?_) #[true, true, true, true, true, true, false, false, false, false] rfl rfl (take_ofW HT_.out HW_.out z4_) (fun _ _ _ h => h) (Or.inl ⟨by rfl, ?_⟩) hHeld ?_ ?_; rotate_left
                        · rintro w' ⟨s0, s1, s2, s3⟩; go_simp; with_reducible rfl
                        rotate_left
                        · simp only [Act.put, List.setIfInBounds_toArray, List.set_cons_zero, List.set_cons_succ, i64_w, i32_w]; rfl
                        refine take_ (i := 6) (N := some 31) (v := ?_) (a' := ?_) #[true, true, true, true, true, true, true, false, false, false] rfl rfl (take_ofW HT_.out HW_.out z4_) (fun _ _ _ h => h) (Or.inl ⟨by rfl, ?_⟩) hHeld ?_ ?_; rotate_left
                        · rintro w' ⟨s0, s1, s2, s3⟩; go_simp; with_reducible rfl
                        rotate_left
                        · simp only [Act.put, List.setIfInBounds_toArray, List.set_cons_zero, List.set_cons_succ, i64_w, i32_w]; rfl
                        refine pure_ (i := 7) (N := some 32) (v := ?_) (a' := ?_) #[true, true, true, true, true, true, true, true, false, false] rfl rfl (any_of HT_.out z4_) (fun _ _ _ h => h) (Or.inl ⟨by rfl, ?_⟩) ?_ ?_; rotate_left
                        · intro w'; go_simp; with_reducible rfl
                        rotate_left
                        · simp only [Act.put, List.setIfInBounds_toArray, List.set_cons_zero, List.set_cons_succ, i64_w, i32_w]; rfl
                        refine pure_ (i := 8) (N := some 33) (v := ?_) (a' := ?_) #[true, true, true, true, true, true, true, true, true, false] rfl rfl (any_of HT_.out z4_) (fun _ _ _ h => h) (Or.inl ⟨by rfl, ?_⟩) ?_ ?_; rotate_left
                        · intro w'; go_simp; with_reducible rfl
                        rotate_left
                        · simp only [Act.put, List.setIfInBounds_toArray, List.set_cons_zero, List.set_cons_succ, i64_w, i32_w]; rfl
                        refine last_ (i := 9) (N := none) #[true, true, true, true, true, true, true, true, true, true] rfl rfl (one_of HT_.out z4_) (by decide) (fun K hK => ?_); refine skip_ (w1 := ?_) (by rfl) rfl ?_ ?_; rotate_left
                        · go_simp; rfl
                        refine hK.out _ _ ?_; clear hK K; refine done_ (done_of HT_.out z4_) ?_; (try go_wp2); go_roundg k1
                        case measure => have := HK1.out; omega
                        case rel => exact ⟨(y371), (wrap64 (x12_1 + 1)), z5_, H', ⟨z78_⟩, ⟨by (with_reducible repeat (first | apply Kd.R_alloc | apply Kd.R_drewN | apply Kd.R_drew)); exact HQ24.out⟩, ⟨by repeat (first | (with_reducible first | exact HB.out | apply below_alloc | apply pw_below_drewN | apply below_drew1 | refine below_set ?_ GB12.out | refine below_set ?_ GE367.out) | exact HB.out)⟩⟩
                      · rw [if_neg c14] at H; exact absurd H (by simp)
                    · rw [if_neg c13] at H; exact absurd H (by simp)
                  · rw [if_neg c11] at H; exact absurd H (by simp)
                · rw [if_neg c10] at H; exact absurd H (by simp)
              · rw [if_neg c9] at H; exact absurd H (by simp)
            · rw [if_neg c8] at H; exact absurd H (by simp)
          · rw [if_neg c7] at H; have c7b0 : decide (x12_1 < (l1.length : Int)) = false := decide_eq_false c7; clear c7; obtain rfl := Option.some.inj H; go_wp2; go_ret; exact ⟨_, z3_, z46_, z0_⟩
    · rw [if_neg c4] at H; exact absurd H (by simp)
  · rw [if_neg c3] at H; exact absurd H (by simp)

/-! ### impl_NetsOf: function 50 -/
def impl_NetsOf.f (k : Nat) (a0 : Int) (l1 : List (S65)) : Option (List Int × Int) := (impl_ValidDebts.f k a0 l1).bind fun t372 => (if t372 = true then ((impl_nets.f k a0 l1).bind fun t373 => (some (t373, 0))) else (some (([] : List Int), 1)))
theorem impl_NetsOf.mono : ∀ a0 a1 k, LeO (impl_NetsOf.f k a0 a1) (impl_NetsOf.f (k + 1) a0 a1) := by
  intro a0 a1 k; unfold impl_NetsOf.f
  repeat' first
      | (with_reducible exact impl_ValidDebts.mono _ _ _)
      | (with_reducible exact impl_nets.mono _ _ _)
      | (with_reducible exact LeO.refl _)
      | (with_reducible exact LeO.none _)
      | (with_reducible refine LeO.ite ?_ ?_)
      | (with_reducible refine LeO.bind ?_ (fun _ => ?_))
      | exact impl_ValidDebts.mono _ _ _
      | exact impl_nets.mono _ _ _
      | exact LeO.none _
      | refine LeO.ite ?_ ?_
      | refine LeO.bind ?_ (fun _ => ?_)
set_option maxHeartbeats 8000000 in
set_option maxRecDepth 100000 in
theorem impl_NetsOf.calls (k : Nat) (a0 : Int) (A1 : Option Addr) (c1 : Nat) (l1 : List (S65)) (r1 : List Int) (r2 : Int) (w : World) (hr1 : Kd.C k65 w A1 l1.length l1) (hc1 : l1.length ≤ c1) (h : impl_NetsOf.f k a0 l1 = some (r1, r2)) :
    Calls Try.prog 50 #[.int .i64 a0, .slice A1 l1.length c1] w fun e w' => ∃ v0_ : Value, e = .returned (.tuple #[v0_, .int .i64 r2]) ∧ Kd.R (Kd.int .i64) 2 w' w.heap.size (fun _ => True) v0_ r1 ∧ Below w.heap.size w w' := by
  have HR1 := Aside0.mk hr1; have HC1 := Aside0.mk hc1; clear hr1 hc1; have HB := Aside0.mk (Below.refl w.heap.size w); have H : ((impl_ValidDebts.f k a0 l1).bind fun t372 => (if t372 = true then ((impl_nets.f k a0 l1).bind fun t373 => (some (t373, 0))) else (some (([] : List Int), 1)))) = some (r1, r2) := h; clear h; replace H := Option.bind_eq_some_iff.mp H; obtain ⟨t372, A30, H⟩ := H; replace H : (if t372 = true then ((impl_nets.f k a0 l1).bind fun t373 => (some (t373, 0))) else (some (([] : List Int), 1))) = some (r1, r2) := H; have A3 := Aside0.mk A30; clear A30; by_cases c4 : t372 = true
  · subst c4; (have H1 : ((impl_nets.f k a0 l1).bind fun t373 => (some (t373, 0))) = some (r1, r2) := z41_); clear H; have H := H1; clear H1; replace H := Option.bind_eq_some_iff.mp H; obtain ⟨t373, A50, H⟩ := H; replace H : (some (t373, 0)) = some (r1, r2) := H; have A5 := Aside0.mk A50; clear A50; simp only [Option.some.injEq, Prod.mk.injEq] at H; obtain ⟨rfl, rfl⟩ := H; go_enter Try.func50, Try.ntmps50; go_wp2_with (first | ((with_reducible refine gate_callee (f := 61) rfl ?_); refine goesL_ (some 8) rfl rfl Try.func61 z4_ rfl #[.int .i64 a0, .slice A1 l1.length c1] rfl z2_ ?_; (with_reducible refine (impl_ValidDebts.calls k a0 _ _ l1 true _ ?side1 ?side2 A3.out).mono ?_); (case side1 => repeat (first | exact HR1.out | (with_reducible refine Kd.C_alloc ?_ _) | (with_reducible refine Kd.C_drewN ?_ _) | (with_reducible refine Kd.C_drew ?_))); (case side2 => exact HC1.out); rintro e w6 ⟨rfl, hb⟩; refine ⟨_, rfl, ?_⟩; have n0_ := Aside0.mk (below_step z0_ hb); clear HB; have HB := n0_; clear n0_; (try clear hb); (try clear hb2); (try clear hk); (try clear hi)) | ((with_reducible refine gate_callee (f := 76) rfl ?_); refine goesL_ (some 12) rfl rfl Try.func76 z4_ rfl #[.int .i64 a0, .slice A1 l1.length c1] rfl z2_ ?_; (with_reducible refine (impl_nets.calls k a0 _ _ l1 t373 _ ?side1 ?side2 A5.out).mono ?_); (case side1 => repeat (first | exact (Kd.C_below HR1.out HB.out) | (with_reducible refine Kd.C_alloc ?_ _) | (with_reducible refine Kd.C_drewN ?_ _) | (with_reducible refine Kd.C_drew ?_))); (case side2 => exact HC1.out); rintro e w7 ⟨v374, rfl, ho0, hb⟩; refine ⟨_, rfl, ?_⟩; have n0_ := Aside0.mk (Kd.R_lower ho0 (below_size z0_)); have n1_ := Aside0.mk (below_step z0_ hb); clear HB; have HO375 := n0_; have HB := n1_; clear n0_ n1_; (try clear hb); (try clear hb2); (try clear hk); (try clear hi); (try clear ho0))); go_ret2; exact ⟨_, z3_, by (with_reducible repeat (first | apply Kd.R_alloc | apply Kd.R_drewN | apply Kd.R_drew)); exact HO375.out, z0_⟩
  · replace c4 := Bool.eq_false_iff.mpr c4; subst c4; (have H1 : (some (([] : List Int), 1)) = some (r1, r2) := z18_); clear H; have H := H1; clear H1; simp only [Option.some.injEq, Prod.mk.injEq] at H; obtain ⟨rfl, rfl⟩ := H; go_enter Try.func50, Try.ntmps50; go_wp2_with (first | ((with_reducible refine gate_callee (f := 61) rfl ?_); refine goesL_ (some 8) rfl rfl Try.func61 z4_ rfl #[.int .i64 a0, .slice A1 l1.length c1] rfl z2_ ?_; (with_reducible refine (impl_ValidDebts.calls k a0 _ _ l1 false _ ?side1 ?side2 A3.out).mono ?_); (case side1 => repeat (first | exact HR1.out | (with_reducible refine Kd.C_alloc ?_ _) | (with_reducible refine Kd.C_drewN ?_ _) | (with_reducible refine Kd.C_drew ?_))); (case side2 => exact HC1.out); rintro e w8 ⟨rfl, hb⟩; refine ⟨_, rfl, ?_⟩; have n0_ := Aside0.mk (below_step z0_ hb); clear HB; have HB := n0_; clear n0_; (try clear hb); (try clear hb2); (try clear hk); (try clear hi))); go_ret2; exact ⟨_, z3_, z25_, z0_⟩

/-! ### laws_a2At: function 51 -/
def laws_a2At.f (l0 : List Int) (a1 : Int) (a2 : Int) : Option (Int) := if a1 ≥ (l0.length : Int) then (some 0) else (if a2 < 1 then (some 0) else (if 0 ≤ a1 then (if a1 < (l0.length : Int) then (if a2 = 0 then (none) else (some (Int.tmod (wrap64 (rd l0 a1)) a2))) else (none)) else (none)))
set_option maxHeartbeats 8000000 in
set_option maxRecDepth 100000 in
theorem laws_a2At.calls (A0 : Option Addr) (c0 : Nat) (l0 : List Int) (a1 : Int) (a2 : Int) (r : Int) (w : World) (hr0 : Kd.C (Kd.int .u8) w A0 l0.length l0) (hc0 : l0.length ≤ c0) (h : laws_a2At.f l0 a1 a2 = some r) :
    Calls Try.prog 51 #[.slice A0 l0.length c0, .int .i64 a1, .int .i64 a2] w fun e w' => e = .returned (.int .i64 r) ∧ Drawn0 w w' := by
  have HR0 := Aside0.mk hr0; have HC0 := Aside0.mk hc0; clear hr0 hc0; have H : (if a1 ≥ (l0.length : Int) then (some 0) else (if a2 < 1 then (some 0) else (if 0 ≤ a1 then (if a1 < (l0.length : Int) then (if a2 = 0 then (none) else (some (Int.tmod (wrap64 (rd l0 a1)) a2))) else (none)) else (none)))) = some r := h; clear h; by_cases c4 : a1 ≥ (l0.length : Int)
  · rw [if_pos c4] at H; have c4b0 : decide ((l0.length : Int) ≤ a1) = true := decide_eq_true c4; clear c4; obtain rfl := Option.some.inj H; go_enter Try.func51, Try.ntmps51; go_wp2; go_ret; exact ⟨z5_, z24_⟩
  · rw [if_neg c4] at H; have c4b0 : decide ((l0.length : Int) ≤ a1) = false := decide_eq_false c4; clear c4; by_cases c5 : a2 < 1
    · rw [if_pos c5] at H; have c5b0 : decide (a2 < 1) = true := decide_eq_true c5; clear c5; obtain rfl := Option.some.inj H; go_enter Try.func51, Try.ntmps51; go_wp2; go_ret; exact ⟨z5_, z24_⟩
    · rw [if_neg c5] at H; have c5b0 : decide (a2 < 1) = false := decide_eq_false c5; clear c5; by_cases c6 : 0 ≤ a1
      · rw [if_pos c6] at H; have c6b0 : decide (0 ≤ a1) = true := decide_eq_true c6; clear c6; by_cases c7 : a1 < (l0.length : Int)
        · rw [if_pos c7] at H; have c7b0 : decide (a1 < (l0.length : Int)) = true := decide_eq_true c7; clear c7; by_cases c8 : a2 = 0
          · rw [if_pos c8] at H; exact absurd H (by simp)
          · rw [if_neg c8] at H; have c8b0 : (a2 == 0) = false := beq_eq_false_iff_ne.mpr c8; have c8b1 : (a2 != 0) = true := bne_iff_ne.mpr c8; obtain rfl := Option.some.inj H; have p376 : 0 ≤ (a1 : Int) := of_decide_eq_true z1_; have q376 : a1 < (l0.length : Int) := of_decide_eq_true z1_; obtain ⟨ad376, e376, hx376_0⟩ := Kd.at_int HR0.out a1 p376 q376; cases e376; replace p376 := eq_true p376; replace q376 := eq_true q376; go_enter Try.func51, Try.ntmps51; go_wp2; go_ret; exact ⟨z5_, z24_⟩
        · rw [if_neg c7] at H; exact absurd H (by simp)
      · rw [if_neg c6] at H; exact absurd H (by simp)

/-! ### spec_A2Has: function 52 -/
def spec_A2Has.l0 : Nat → List Int → Int → Int → Option (Bool)
  | 0, _, _, _ => none
  | k + 1, x0, x1, x5 => if x5 < (x0.length : Int) then (if 0 ≤ x5 then (if (rd x0 x5) = x1 then (some true) else (spec_A2Has.l0 k x0 x1 (wrap64 (x5 + 1)))) else (none)) else (some false)
def spec_A2Has.f (k : Nat) (l0 : List Int) (a1 : Int) : Option (Bool) := spec_A2Has.l0 k l0 a1 0
theorem spec_A2Has.mono_l : ∀ k, (∀ y0 y1 y2, LeO (spec_A2Has.l0 k y0 y1 y2) (spec_A2Has.l0 (k + 1) y0 y1 y2))
  | 0 => fun _ _ _ r h => by simp [spec_A2Has.l0] at h
  | k + 1 => by
    have ih0 := spec_A2Has.mono_l k
    · intro y0 y1 y2
      unfold spec_A2Has.l0
      repeat' first
      | (with_reducible exact ih0 _ _ _)
      | (with_reducible exact LeO.refl _)
      | (with_reducible exact LeO.none _)
      | (with_reducible refine LeO.ite ?_ ?_)
      | (with_reducible refine LeO.bind ?_ (fun _ => ?_))
      | exact ih0 _ _ _
      | exact LeO.none _
      | refine LeO.ite ?_ ?_
      | refine LeO.bind ?_ (fun _ => ?_)
theorem spec_A2Has.mono : ∀ a0 a1 k, LeO (spec_A2Has.f k a0 a1) (spec_A2Has.f (k + 1) a0 a1) := by
  intro a0 a1 k; have ih0 := spec_A2Has.mono_l k; unfold spec_A2Has.f
  repeat' first
      | (with_reducible exact ih0 _ _ _)
      | (with_reducible exact LeO.refl _)
      | (with_reducible exact LeO.none _)
      | (with_reducible refine LeO.ite ?_ ?_)
      | (with_reducible refine LeO.bind ?_ (fun _ => ?_))
      | exact ih0 _ _ _
      | exact LeO.none _
      | refine LeO.ite ?_ ?_
      | refine LeO.bind ?_ (fun _ => ?_)
set_option maxHeartbeats 8000000 in
set_option maxRecDepth 100000 in
theorem spec_A2Has.calls (k : Nat) (A0 : Option Addr) (c0 : Nat) (l0 : List Int) (a1 : Int) (r : Bool) (w : World) (hr0 : Kd.C (Kd.int .i64) w A0 l0.length l0) (hc0 : l0.length ≤ c0) (h : spec_A2Has.f k l0 a1 = some r) :
    Calls Try.prog 52 #[.slice A0 l0.length c0, .int .i64 a1] w fun e w' => e = .returned (.bool r) ∧ Drawn0 w w' := by
  have HR0 := Aside0.mk hr0; have HC0 := Aside0.mk hc0; clear hr0 hc0; have H : (spec_A2Has.l0 k l0 a1 0) = some r := h; clear h; have H' := Aside0.mk H; clear H; go_enter Try.func52, Try.ntmps52; go_wp2; go_loopg [5] k (fun kq v5 w' => ∃ (x5_1 : Int), v5 = .int .i64 x5_1 ∧ Aside0 (spec_A2Has.l0 kq l0 a1 x5_1 = some r) ∧ Aside0 (kq ≤ k) ∧ Drawn0 w w')
  case atStart => exact ⟨(0), z5_, H', ⟨Nat.le_refl _⟩, z24_⟩
  case round =>
    clear H'; (try clear p2); obtain ⟨x5_1, rfl, HA, HK1, ⟨m1, rfl⟩⟩ := hrel
    cases gk with
    | zero => exact absurd HA.out (by simp [spec_A2Has.l0])
    | succ k1 =>
      have H := HA.out; clear HA; simp only [spec_A2Has.l0] at H; by_cases c3 : x5_1 < (l0.length : Int)
      · rw [if_pos c3] at H; have c3b0 : decide (x5_1 < (l0.length : Int)) = true := decide_eq_true c3; clear c3; by_cases c4 : 0 ≤ x5_1
        · rw [if_pos c4] at H; have c4b0 : decide (0 ≤ x5_1) = true := decide_eq_true c4; clear c4; by_cases c5 : (rd l0 x5_1) = a1
          · rw [if_pos c5] at H; have c5b0 : ((rd l0 x5_1) == a1) = true := beq_iff_eq.mpr c5; have c5b1 : ((rd l0 x5_1) != a1) = false := bne_eq_false_iff_eq.mpr c5; clear c5; obtain rfl := Option.some.inj H; have p377 : 0 ≤ (x5_1 : Int) := of_decide_eq_true z1_; have q377 : x5_1 < (l0.length : Int) := of_decide_eq_true z1_; obtain ⟨ad377, e377, hx377_0⟩ := Kd.at_int HR0.out x5_1 p377 q377; cases e377; replace p377 := eq_true p377; replace q377 := eq_true q377; go_wp2; go_ret; exact ⟨z5_, z24_⟩
          · rw [if_neg c5] at H; have c5b0 : ((rd l0 x5_1) == a1) = false := beq_eq_false_iff_ne.mpr c5; have c5b1 : ((rd l0 x5_1) != a1) = true := bne_iff_ne.mpr c5; have H' := Aside0.mk H; clear H; have p377 : 0 ≤ (x5_1 : Int) := of_decide_eq_true z1_; have q377 : x5_1 < (l0.length : Int) := of_decide_eq_true z1_; obtain ⟨ad377, e377, hx377_0⟩ := Kd.at_int HR0.out x5_1 p377 q377; cases e377; replace p377 := eq_true p377; replace q377 := eq_true q377; go_wp2; go_roundg k1
            case measure => have := HK1.out; omega
            case rel => exact ⟨(wrap64 (x5_1 + 1)), z5_, H', ⟨z78_⟩, z24_⟩
        · rw [if_neg c4] at H; exact absurd H (by simp)
      · rw [if_neg c3] at H; have c3b0 : decide (x5_1 < (l0.length : Int)) = false := decide_eq_false c3; clear c3; obtain rfl := Option.some.inj H; go_wp2; go_ret; exact ⟨z5_, z24_⟩

end Go.Proofs.Ytofcgkcpkngocaa.MPaid
