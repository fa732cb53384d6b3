-- by a program of this session, for this claim
import Derived.Test.YtfjmljgbdejghaaDoorMNetsx0
import Derived.Test.YtfjmljgbdejghaaDoorMNetsx2
namespace Go.Proofs.YtfjmljgbdejghaaDoor.MNets
open Go.RowKit Go.Proofs.YtfjmljgbdejghaaDoorW.PrintWords Go.Proofs.YtfjmljgbdejghaaDoorW.PrintLast Go.Proofs.YtfjmljgbdejghaaDoorW.PrintMore
attribute [local go_sem] max2_int min2_int max_two min_two max_three min_three max_four min_four   -- for this text's walks alone
set_option linter.unusedVariables false
set_option linter.unusedSimpArgs false

/-! ### impl_nets: function 89 -/
def impl_nets.l0 : Nat → List Int → List (S77) → Int → Int → Option (List Int)
  | 0, _, _, _, _ => none
  | k + 1, x5, x10, x11, x12 => if x12 < x11 then (if 0 ≤ x12 then (if x12 < (x10.length : Int) then (if 0 ≤ ((rd_T77 x10 x12).f0) then (if ((rd_T77 x10 x12).f0) < (x5.length : Int) then ((some (x5.set (((rd_T77 x10 x12).f0) : Int).toNat (wrap64 ((rd x5 ((rd_T77 x10 x12).f0)) - ((rd_T77 x10 x12).f2))) : List Int)).bind fun y213 => (if 0 ≤ ((rd_T77 x10 x12).f1) then (if ((rd_T77 x10 x12).f1) < (x5.length : Int) then (impl_nets.l0 k (y213.set (((rd_T77 x10 x12).f1) : Int).toNat (wrap64 ((rd y213 ((rd_T77 x10 x12).f1)) + ((rd_T77 x10 x12).f2)))) x10 x11 (wrap64 (x12 + 1))) else (none)) else (none))) else (none)) else (none)) else (none)) else (none)) else (some x5)
def impl_nets.f (k : Nat) (a0 : Int) (l1 : List (S77)) : Option (List Int) := if 0 ≤ a0 then (if (a0 : Int).toNat ≤ 35184372088832 then (impl_nets.l0 k (List.replicate (a0 : Int).toNat 0) l1 (l1.length : Int) 0) else (none)) else (none)
theorem impl_nets.mono_l : ∀ k, (∀ y0 y1 y2 y3, LeO (impl_nets.l0 k y0 y1 y2 y3) (impl_nets.l0 (k + 1) y0 y1 y2 y3))
  | 0 => fun _ _ _ _ r h => by simp [impl_nets.l0] at h
  | k + 1 => by
    have ih0 := impl_nets.mono_l k
    · intro y0 y1 y2 y3
      unfold impl_nets.l0
      repeat' first
      | (with_reducible exact ih0 _ _ _ _)
      | (with_reducible exact LeO.refl _)
      | (with_reducible exact LeO.none _)
      | (with_reducible refine LeO.ite ?_ ?_)
      | (with_reducible refine LeO.bind ?_ (fun _ => ?_))
      | exact ih0 _ _ _ _
      | exact LeO.none _
      | refine LeO.ite ?_ ?_
      | refine LeO.bind ?_ (fun _ => ?_)
theorem impl_nets.mono : ∀ a0 a1 k, LeO (impl_nets.f k a0 a1) (impl_nets.f (k + 1) a0 a1) := by
  intro a0 a1 k; have ih0 := impl_nets.mono_l k; unfold impl_nets.f
  repeat' first
      | (with_reducible exact ih0 _ _ _ _)
      | (with_reducible exact LeO.refl _)
      | (with_reducible exact LeO.none _)
      | (with_reducible refine LeO.ite ?_ ?_)
      | (with_reducible refine LeO.bind ?_ (fun _ => ?_))
      | exact ih0 _ _ _ _
      | exact LeO.none _
      | refine LeO.ite ?_ ?_
      | refine LeO.bind ?_ (fun _ => ?_)
def impl_nets.T5 : Bool × List (List Nat × List Nat) := (true, [([], []), ([], []), ([1], [1]), ([0, 2], [0, 2]), ([3], [3]), ([], []), ([5], [5]), ([4, 6], [4, 6]), ([0, 2, 0, 1, 2, 3, 4, 5, 6, 7], [0, 2]), ([8, 7, 0, 1, 2, 3, 4, 5, 6, 7], [7, 8])])
def impl_nets.B5 : List Nat := [0, 0, 2, 7, 15, 0, 32, 127, 255, 511]
theorem impl_nets.tab5 : rtab .any (opsOf Tryd.f89 5) = impl_nets.T5 := by kernel_rfl
theorem impl_nets.bits5 : waitsOk impl_nets.T5.2 impl_nets.B5 = true := by kernel_rfl
def impl_nets.T6 : Bool × List (List Nat × List Nat) := (true, [([], []), ([], []), ([1], [1]), ([0, 2], [0, 2]), ([3], [3]), ([], []), ([5], [5]), ([4, 6], [4, 6]), ([0, 2, 0, 1, 2, 3, 4, 5, 6, 7], [0, 2]), ([8, 7, 0, 1, 2, 3, 4, 5, 6, 7], [7, 8])])
def impl_nets.B6 : List Nat := [0, 0, 2, 7, 15, 0, 32, 127, 255, 511]
theorem impl_nets.tab6 : rtab .any (opsOf Tryd.f89 6) = impl_nets.T6 := by kernel_rfl
theorem impl_nets.bits6 : waitsOk impl_nets.T6.2 impl_nets.B6 = true := by kernel_rfl
set_option maxHeartbeats 8000000 in
set_option maxRecDepth 100000 in
theorem impl_nets.calls (k : Nat) (a0 : Int) (A1 : Option Addr) (c1 : Nat) (l1 : List (S77)) (r : List Int) (w : World) (hr1 : Kd.C k77 w A1 l1.length l1) (hc1 : l1.length ≤ c1) (h : impl_nets.f k a0 l1 = some r) :
    Calls Tryd.prog 89 #[.int .i64 a0, .slice A1 l1.length c1] w fun e w' => ∃ v0_ : Value, e = .returned (v0_) ∧ Kd.R (Kd.int .i64) 2 w' w.heap.size (fun _ => True) v0_ r ∧ Below w.heap.size w w' := by
  have hu77 := Tryd.underlying77; have HR1 := Aside0.mk hr1; have HC1 := Aside0.mk hc1; clear hr1 hc1; have HB := Aside0.mk (Below.refl w.heap.size w); have H : (if 0 ≤ a0 then (if (a0 : Int).toNat ≤ 35184372088832 then (impl_nets.l0 k (List.replicate (a0 : Int).toNat 0) l1 (l1.length : Int) 0) else (none)) else (none)) = some r := h; clear h; by_cases c3 : 0 ≤ a0
  ·rw [if_pos c3] at H; have c3b0 := eq_true c3; have c3b1 : decide (0 ≤ a0) = true := decide_eq_true c3; clear c3; by_cases c4 : (a0 : Int).toNat ≤ 35184372088832
   ·rw [if_pos c4] at H; have c4b0 := eq_true c4; have c4b1 : decide ((a0 : Int).toNat ≤ 35184372088832) = true := decide_eq_true c4; clear c4; obtain ⟨y207, hy207⟩ : ∃ y_ : List Int, y_ = (List.replicate (a0 : Int).toNat 0) := ⟨_, rfl⟩; (replace H : (impl_nets.l0 k y207 l1 (l1.length : Int) 0) = some r := by first | (rw [hy207]; with_reducible exact H) | (have H2_ := (Option.bind_some _ _).symm.trans H; rw [hy207]; with_reducible exact H2_) | (have H2_ := (Option.bind_some _ _).symm.trans H; with_reducible exact H2_) | with_reducible exact H | (rw [hy207]; exact H) | exact H); have Ny207 := Aside0.mk hy207; clear hy207; have H' := Aside0.mk H; clear H; go_enter Tryd.func89, Tryd.ntmps89; go_wp2_with (first | ((with_reducible refine gate_dst (N := 9) rfl ?_); refine Kd.R_make (Kd.int .i64) _ 2 rfl (N := 9) rfl 67 _ _ rfl a0 rfl rfl Tryd.underlying67 (.int .i64 0) 8 info2 rfl (by decide) (by omega) 0 (ok := fun _ => True) (okp := fun _ => True) rfl (fun _ hk => hk) trivial (of_decide_eq_true z2_) (Nat.le_trans (Nat.mul_le_mul_right _ (of_decide_eq_true (z2_) : a0.toNat ≤ 35184372088832)) (by omega)) (Below.refl _ _) (Nat.le_refl _) ?_; intro v208 w5 ho6 hb hg_ hnew_; clear hg_ hnew_; (first | rw [← Ny207.out] at ho6 | (simp only [Int.reduceToNat] at ho6; rw [← Ny207.out] at ho6)); have n0_ := Aside0.mk (Kd.R_lower ho6 (below_size z0_)); have n1_ := Aside0.mk (below_step z0_ hb); clear HB; have HO209 := n0_; have HB := n1_; clear n0_ n1_; clear hb ho6)); go_loopg [12] k (fun kq v12 w' => ∃ (x5_1 : List Int) (x12_1 : Int), v12 = .int .i64 x12_1 ∧ Aside0 (impl_nets.l0 kq x5_1 l1 (l1.length : Int) x12_1 = some r) ∧ Aside0 (kq ≤ k) ∧ Aside0 (Kd.R (Kd.int .i64) 2 w' w.heap.size (fun _ => True) v208 x5_1) ∧ Aside0 (Below w.heap.size w w'))
    case atStart => exact ⟨(y207), (0), z5_, H', ⟨Nat.le_refl _⟩, ⟨by (with_reducible repeat (first | apply Kd.R_alloc | apply Kd.R_drewN | apply Kd.R_drew)); exact HO209.out⟩, ⟨z0_⟩⟩
    case round =>
      clear H'; (try clear c1); (try clear p2); (try clear c3); (try clear c3b0); (try clear c3b1); (try clear c4); (try clear c4b0); (try clear c4b1); obtain ⟨x5_1, x12_1, rfl, HA, HK1, HO_5, HB⟩ := hrel
      cases gk with
      | zero => exact absurd HA.out (by simp [impl_nets.l0])
      | succ k1 =>
        have H := HA.out; clear HA; simp only [impl_nets.l0] at H; by_cases c7 : x12_1 < (l1.length : Int)
        ·rw [if_pos c7] at H; have c7b0 : decide (x12_1 < (l1.length : Int)) = true := decide_eq_true c7; clear c7; by_cases c8 : 0 ≤ x12_1
         ·rw [if_pos c8] at H; have c8b0 : decide (0 ≤ x12_1) = true := decide_eq_true c8; clear c8; by_cases c9 : x12_1 < (l1.length : Int)
          ·rw [if_pos c9] at H; have c9b0 : decide (x12_1 < (l1.length : Int)) = true := decide_eq_true c9; clear c9; by_cases c10 : 0 ≤ ((rd_T77 l1 x12_1).f0)
           ·rw [if_pos c10] at H; have c10b0 : decide (0 ≤ ((rd_T77 l1 x12_1).f0)) = true := decide_eq_true c10; clear c10; by_cases c11 : ((rd_T77 l1 x12_1).f0) < (x5_1.length : Int)
            ·rw [if_pos c11] at H; have c11b0 : decide (((rd_T77 l1 x12_1).f0) < (x5_1.length : Int)) = true := decide_eq_true c11; clear c11; obtain ⟨y213, hy213⟩ : ∃ y_ : List Int, y_ = (x5_1.set (((rd_T77 l1 x12_1).f0) : Int).toNat (wrap64 ((rd x5_1 ((rd_T77 l1 x12_1).f0)) - ((rd_T77 l1 x12_1).f2)))) := ⟨_, rfl⟩; (replace H : (if 0 ≤ ((rd_T77 l1 x12_1).f1) then (if ((rd_T77 l1 x12_1).f1) < (x5_1.length : Int) then (impl_nets.l0 k1 (y213.set (((rd_T77 l1 x12_1).f1) : Int).toNat (wrap64 ((rd y213 ((rd_T77 l1 x12_1).f1)) + ((rd_T77 l1 x12_1).f2)))) l1 (l1.length : Int) (wrap64 (x12_1 + 1))) else (none)) else (none)) = some r := by first | (rw [hy213]; with_reducible exact H) | (have H2_ := (Option.bind_some _ _).symm.trans H; rw [hy213]; with_reducible exact H2_) | (have H2_ := (Option.bind_some _ _).symm.trans H; with_reducible exact H2_) | with_reducible exact H | (rw [hy213]; exact H) | exact H); have Ny213 := Aside0.mk hy213; clear hy213; by_cases c13 : 0 ≤ ((rd_T77 l1 x12_1).f1)
             ·rw [if_pos c13] at H; have c13b0 : decide (0 ≤ ((rd_T77 l1 x12_1).f1)) = true := decide_eq_true c13; clear c13; by_cases c14 : ((rd_T77 l1 x12_1).f1) < (x5_1.length : Int)
              ·rw [if_pos c14] at H; have c14b0 : decide (((rd_T77 l1 x12_1).f1) < (x5_1.length : Int)) = true := decide_eq_true c14; clear c14; obtain ⟨y215, hy215⟩ : ∃ y_ : List Int, y_ = (y213.set (((rd_T77 l1 x12_1).f1) : Int).toNat (wrap64 ((rd y213 ((rd_T77 l1 x12_1).f1)) + ((rd_T77 l1 x12_1).f2)))) := ⟨_, rfl⟩; (replace H : (impl_nets.l0 k1 y215 l1 (l1.length : Int) (wrap64 (x12_1 + 1))) = some r := by first | (rw [hy215]; with_reducible exact H) | (have H2_ := (Option.bind_some _ _).symm.trans H; rw [hy215]; with_reducible exact H2_) | (have H2_ := (Option.bind_some _ _).symm.trans H; with_reducible exact H2_) | with_reducible exact H | (rw [hy215]; exact H) | exact H); have Ny215 := Aside0.mk hy215; clear hy215; have H' := Aside0.mk H; clear H; have p210 : 0 ≤ (x12_1 : Int) := of_decide_eq_true z2_; have q210 : x12_1 < (l1.length : Int) := of_decide_eq_true z2_; obtain ⟨ad210, e210, hx210_0, hx210_1, hx210_2⟩ := at_T77 HR1.out x12_1 p210 q210; cases e210; replace hx210_0 := (HB.out.cell (World.block_lt_of_cell? w _ hx210_0)).trans hx210_0; replace hx210_1 := (HB.out.cell (World.block_lt_of_cell? w _ hx210_1)).trans hx210_1; replace hx210_2 := (HB.out.cell (World.block_lt_of_cell? w _ hx210_2)).trans hx210_2; replace p210 := eq_true p210; replace q210 := eq_true q210; (try go_wp2_with (first | ((with_reducible refine gate_dst (N := 7) rfl ?_); refine box_event ?hg (N := 7) ?hd (cs := #[.int .i64 0, .int .i64 0, .int .i64 0]) (t := 77) ?hr ?_; (case hd => rfl); (case hg => rfl); (case hr => first | (go_simp; done) | (go_simp; rfl)); intro gb211 hg w16 hbox hb; have n0_ := Aside0.mk (Kd.R_below z46_ hb); have n1_ := Aside0.mk (below_step z0_ hb); have n2_ := Aside0.mk (hbox); have n3_ := Aside0.mk ((by rw [hg]; exact (below_size z0_) : w.heap.size ≤ gb211)); have n4_ := Aside0.mk ((by rw [hg]; exact (below_size z0_) : w.heap.size ≤ gb211)); clear HO_5; clear HB; have HO_5 := n0_; have HB := n1_; have BK211 := n2_; have GW211 := n3_; have GE211 := n4_; clear n0_ n1_ n2_ n3_ n4_; clear hb hbox hg; have hcz17_0 : w16.cell? ⟨gb211, 0, none⟩ = some (.int .i64 0) := (blk_cell BK211.out 0).trans rfl; have hcz17_1 : w16.cell? ⟨gb211, 1, none⟩ = some (.int .i64 0) := (blk_cell BK211.out 1).trans rfl; have hcz17_2 : w16.cell? ⟨gb211, 2, none⟩ = some (.int .i64 0) := (blk_cell BK211.out 2).trans rfl; have hfz17_0 := blk_frozen BK211.out 0; have hfz17_1 := blk_frozen BK211.out 1; have hfz17_2 := blk_frozen BK211.out 2))); have n0_ : Aside0 (Kd.R (Kd.int .i64) 2 (((w16.setCell ⟨gb211, 0, none⟩ (.int .i64 ((rd_T77 l1 x12_1).f0))).setCell ⟨gb211, 1, none⟩ (.int .i64 ((rd_T77 l1 x12_1).f1))).setCell ⟨gb211, 2, none⟩ (.int .i64 ((rd_T77 l1 x12_1).f2))) w.heap.size (fun _ => True) v208 x5_1) := ⟨by (with_reducible repeat (first | apply Kd.R_alloc | apply Kd.R_drewN | apply Kd.R_drew)); exact Kd.R_mono (Kd.R_far (p := ⟨gb211, 2, none⟩) (Kd.R_far (p := ⟨gb211, 1, none⟩) (Kd.R_far (p := ⟨gb211, 0, none⟩) (Kd.R_types HO_5.out BK211.out (by decide)) (fun _ hk => hk.2) (.int .i64 ((rd_T77 l1 x12_1).f0))) (fun _ hk => hk.2) (.int .i64 ((rd_T77 l1 x12_1).f1))) (fun _ hk => hk.2) (.int .i64 ((rd_T77 l1 x12_1).f2))) (fun _ hk => trivial)⟩; have n1_ : Aside0 ((((w16.setCell ⟨gb211, 0, none⟩ (.int .i64 ((rd_T77 l1 x12_1).f0))).setCell ⟨gb211, 1, none⟩ (.int .i64 ((rd_T77 l1 x12_1).f1))).setCell ⟨gb211, 2, none⟩ (.int .i64 ((rd_T77 l1 x12_1).f2))).heap[gb211]? = some (.cells #[.int .i64 ((rd_T77 l1 x12_1).f0), .int .i64 ((rd_T77 l1 x12_1).f1), .int .i64 ((rd_T77 l1 x12_1).f2)] 77 (0, 0))) := ⟨by (with_reducible repeat (first | refine blk_drewN ?_ _ | refine blk_drew ?_ | refine blk_alloc ?_ _)); refine blk_put (cs := #[.int .i64 ((rd_T77 l1 x12_1).f0), .int .i64 ((rd_T77 l1 x12_1).f1), .int .i64 0]) ?_ 2 _ rfl; (with_reducible repeat (first | refine blk_drewN ?_ _ | refine blk_drew ?_ | refine blk_alloc ?_ _)); refine blk_put (cs := #[.int .i64 ((rd_T77 l1 x12_1).f0), .int .i64 0, .int .i64 0]) ?_ 1 _ rfl; (with_reducible repeat (first | refine blk_drewN ?_ _ | refine blk_drew ?_ | refine blk_alloc ?_ _)); refine blk_put (cs := #[.int .i64 0, .int .i64 0, .int .i64 0]) ?_ 0 _ rfl; (with_reducible repeat (first | refine blk_drewN ?_ _ | refine blk_drew ?_ | refine blk_alloc ?_ _)); exact BK211.out⟩; have n2_ : Aside0 (Below w.heap.size w (((w16.setCell ⟨gb211, 0, none⟩ (.int .i64 ((rd_T77 l1 x12_1).f0))).setCell ⟨gb211, 1, none⟩ (.int .i64 ((rd_T77 l1 x12_1).f1))).setCell ⟨gb211, 2, none⟩ (.int .i64 ((rd_T77 l1 x12_1).f2)))) := ⟨by repeat (first | (with_reducible first | exact HB.out | apply below_alloc | apply pw_below_drewN | apply below_drew1 | refine below_set ?_ GE211.out) | exact HB.out)⟩; (try clear HO_5); (try clear BK211); (try clear HB); generalize (((w16.setCell ⟨gb211, 0, none⟩ (.int .i64 ((rd_T77 l1 x12_1).f0))).setCell ⟨gb211, 1, none⟩ (.int .i64 ((rd_T77 l1 x12_1).f1))).setCell ⟨gb211, 2, none⟩ (.int .i64 ((rd_T77 l1 x12_1).f2))) = w18 at n0_ n1_ n2_ ⊢; have HO_5 := n0_; have BK211 := n1_; have HB := n2_; clear n0_ n1_ n2_; have n0_ := Aside0.mk (Kd.R_drew HO_5.out); have n1_ := Aside0.mk (blk_drew BK211.out); have n2_ := Aside0.mk (below_drew1 HB.out); clear HO_5; clear BK211; clear HB; have HO_5 := n0_; have BK211 := n1_; have HB := n2_; clear n0_ n1_ n2_; obtain ⟨Ao20, co20, eo20⟩ := Kd.R_slice HO_5.out; (first | subst eo20 | (injection eo20 with f1_ f2_ f3_; have f4_ := f1_.symm; have f5_ := f3_.symm; clear f1_ f2_ f3_; subst f4_; subst f5_)); have p212 : 0 ≤ (((rd_T77 l1 x12_1).f0) : Int) := of_decide_eq_true z2_; have q212 : ((rd_T77 l1 x12_1).f0) < (x5_1.length : Int) := of_decide_eq_true z2_; obtain ⟨ad212, e212, hx212_0⟩ := Kd.at_int (Kd.R_reads' HO_5.out).2.2 ((rd_T77 l1 x12_1).f0) p212 q212; cases e212; replace p212 := eq_true p212; replace q212 := eq_true q212; have p12 : 0 ≤ (((rd_T77 l1 x12_1).f0) : Int) := of_decide_eq_true z2_; have q12 : (((rd_T77 l1 x12_1).f0) : Int) < ((x5_1.length : Int) : Int) := of_decide_eq_true z2_; obtain ⟨go12, co12, eo12, gb12, gl12, cl12, HG12⟩ := Kd.R_form HO_5.out (by omega); (first | cases eo12 | (injection eo12 with ea_ en_ ec_; (first | subst ea_ | (injection ea_ with ea_; subst ea_)); subst ec_; clear en_)); have GB12 := Aside0.mk gb12; have GG12 := Aside0.mk HG12; clear gb12 gl12 HG12; (first | simp only [add_plain] at hx212_0 | skip); obtain ⟨hx12_0, hf12_0⟩ := Kd.R_celln 0 HO_5.out (((rd_T77 l1 x12_1).f0) : Int) p12 q12; replace p12 := eq_true p12; replace q12 := eq_true q12; have HP21 := Kd.R_putn HO_5.out (((rd_T77 l1 x12_1).f0) : Int) (wrap64 ((rd x5_1 ((rd_T77 l1 x12_1).f0)) - ((rd_T77 l1 x12_1).f2))); rw [← Ny213.out] at HP21; have HQ21 := Aside0.mk HP21; clear HP21; refine start_ (n := 10) (S := fun w' => w'.cell? ⟨gb211, 0, none⟩ = some (.int .i64 ((rd_T77 l1 x12_1).f0)) ∧ w'.cell? ⟨gb211, 1, none⟩ = some (.int .i64 ((rd_T77 l1 x12_1).f1)) ∧ w'.cell? ⟨gb211, 2, none⟩ = some (.int .i64 ((rd_T77 l1 x12_1).f2)) ∧ w'.cell? ⟨go12, (((rd_T77 l1 x12_1).f0)).toNat, none⟩ = some (.int .i64 (rd x5_1 ((rd_T77 l1 x12_1).f0)))) (ds := [9]) #[false, false, false, false, false, false, false, false, false, false] z4_ rfl rfl ⟨(blk_cell BK211.out 0).trans rfl, (blk_cell BK211.out 1).trans rfl, (blk_cell BK211.out 2).trans rfl, hx212_0⟩ (fun hHeld => ?_); refine with_tabW impl_nets.tab5 impl_nets.bits5 (fun HT_ HW_ => ?_); generalize w18.drew = w19 at HO_5 BK211 HB GG12 HQ21 hf12_0 hx12_0 hx212_0 hHeld ⊢; refine pure_ (i := 0) (N := some 16) (v := ?_) (a' := ?_) #[true, false, false, false, false, false, false, false, false, false] rfl rfl (any_of HT_.out z4_) (fun _ _ _ h => h) (Or.inl ⟨by rfl, ?_⟩) ?_ ?_; rotate_left
               ·intro w'; go_simp; with_reducible rfl
               rotate_left
               ·simp only [Act.put, List.setIfInBounds_toArray, List.set_cons_zero, List.set_cons_succ, i64_w, i32_w]; rfl
               refine pure_ (i := 1) (N := some 17) (v := ?_) (a' := ?_) #[true, true, false, false, false, false, false, false, false, false] rfl rfl (any_of HT_.out z4_) (fun _ _ _ h => h) (Or.inl ⟨by rfl, ?_⟩) ?_ ?_; rotate_left
               ·intro w'; go_simp; with_reducible rfl
               rotate_left
               ·simp only [Act.put, List.setIfInBounds_toArray, List.set_cons_zero, List.set_cons_succ, i64_w, i32_w]; rfl
               refine pure_ (i := 5) (N := some 21) (v := ?_) (a' := ?_) #[true, true, false, false, false, true, false, false, false, false] rfl rfl (any_of HT_.out z4_) (fun _ _ _ h => h) (Or.inl ⟨by rfl, ?_⟩) ?_ ?_; rotate_left
               ·intro w'; go_simp; with_reducible rfl
               rotate_left
               ·simp only [Act.put, List.setIfInBounds_toArray, List.set_cons_zero, List.set_cons_succ, i64_w, i32_w]; rfl
               refine take_ (i := 2) (N := some 18) (v := ?_) (a' := ?_) #[true, true, true, false, false, true, false, false, false, false] rfl rfl (take_ofW HT_.out HW_.out z4_) (fun _ _ _ h => h) (Or.inl ⟨by rfl, ?_⟩) hHeld ?_ ?_; rotate_left
               ·rintro w' ⟨s0, s1, s2, s3⟩; go_simp; with_reducible rfl
               rotate_left
               ·simp only [Act.put, List.setIfInBounds_toArray, List.set_cons_zero, List.set_cons_succ, i64_w, i32_w]; rfl
               refine pure_ (i := 3) (N := some 19) (v := ?_) (a' := ?_) #[true, true, true, true, false, true, false, false, false, false] rfl rfl (any_of HT_.out z4_) (fun _ _ _ h => h) (Or.inl ⟨by rfl, ?_⟩) ?_ ?_; rotate_left
               ·intro w'; go_simp; with_reducible rfl
               rotate_left
               ·simp only [Act.put, List.setIfInBounds_toArray, List.set_cons_zero, List.set_cons_succ, i64_w, i32_w]; rfl
               refine take_ (i := 4) (N := some 20) (v := ?_) (a' := ?_) #[true, true, true, true, true, true, false, false, false, false] rfl rfl (take_ofW HT_.out HW_.out z4_) (fun _ _ _ h => h) (Or.inl ⟨by rfl, ?_⟩) hHeld ?_ ?_; rotate_left
               ·rintro w' ⟨s0, s1, s2, s3⟩; go_simp; with_reducible rfl
               rotate_left
               ·simp only [Act.put, List.setIfInBounds_toArray, List.set_cons_zero, List.set_cons_succ, i64_w, i32_w]; rfl
               refine take_ (i := 6) (N := some 22) (v := ?_) (a' := ?_) #[true, true, true, true, true, true, true, false, false, false] rfl rfl (take_ofW HT_.out HW_.out z4_) (fun _ _ _ h => h) (Or.inl ⟨by rfl, ?_⟩) hHeld ?_ ?_; rotate_left
               ·rintro w' ⟨s0, s1, s2, s3⟩; go_simp; with_reducible rfl
               rotate_left
               ·simp only [Act.put, List.setIfInBounds_toArray, List.set_cons_zero, List.set_cons_succ, i64_w, i32_w]; rfl
               refine pure_ (i := 7) (N := some 23) (v := ?_) (a' := ?_) #[true, true, true, true, true, true, true, true, false, false] rfl rfl (any_of HT_.out z4_) (fun _ _ _ h => h) (Or.inl ⟨by rfl, ?_⟩) ?_ ?_; rotate_left
               ·intro w'; go_simp; with_reducible rfl
               rotate_left
               ·simp only [Act.put, List.setIfInBounds_toArray, List.set_cons_zero, List.set_cons_succ, i64_w, i32_w]; rfl
               refine pure_ (i := 8) (N := some 24) (v := ?_) (a' := ?_) #[true, true, true, true, true, true, true, true, true, false] rfl rfl (any_of HT_.out z4_) (fun _ _ _ h => h) (Or.inl ⟨by rfl, ?_⟩) ?_ ?_; rotate_left
               ·intro w'; go_simp; with_reducible rfl
               rotate_left
               ·simp only [Act.put, List.setIfInBounds_toArray, List.set_cons_zero, List.set_cons_succ, i64_w, i32_w]; rfl
               refine last_ (i := 9) (N := none) #[true, true, true, true, true, true, true, true, true, true] rfl rfl (one_of HT_.out z4_) (by decide) (fun K hK => ?_); refine skip_ (w1 := ?_) (by rfl) rfl ?_ ?_; rotate_left
               ·go_simp; rfl
               refine hK.out _ _ ?_; clear hK K; refine done_ (done_of HT_.out z4_) ?_; (try go_wp2); have n0_ : Aside0 (Kd.R (Kd.int .i64) 2 (w19.setCell ⟨go12, (((rd_T77 l1 x12_1).f0) : Int).toNat, none⟩ (.int .i64 (wrap64 ((rd x5_1 ((rd_T77 l1 x12_1).f0)) - ((rd_T77 l1 x12_1).f2))))) w.heap.size (fun _ => True) (.slice (some ⟨go12, 0, none⟩) x5_1.length co20) y213) := ⟨by (with_reducible repeat (first | apply Kd.R_alloc | apply Kd.R_drewN | apply Kd.R_drew)); exact HQ21.out⟩; have n1_ : Aside0 ((w19.setCell ⟨go12, (((rd_T77 l1 x12_1).f0) : Int).toNat, none⟩ (.int .i64 (wrap64 ((rd x5_1 ((rd_T77 l1 x12_1).f0)) - ((rd_T77 l1 x12_1).f2))))).heap[gb211]? = some (.cells #[.int .i64 ((rd_T77 l1 x12_1).f0), .int .i64 ((rd_T77 l1 x12_1).f1), .int .i64 ((rd_T77 l1 x12_1).f2)] 77 (0, 0))) := ⟨by (with_reducible repeat (first | refine blk_drewN ?_ _ | refine blk_drew ?_ | refine blk_alloc ?_ _)); refine blk_far ?_ (by have h_ := Kd.R_ne HO_5.out BK211.out (by decide); intro e_; exact h_ (by rw [e_]; rfl)) _; (with_reducible repeat (first | refine blk_drewN ?_ _ | refine blk_drew ?_ | refine blk_alloc ?_ _)); exact BK211.out⟩; have n2_ : Aside0 (Below w.heap.size w (w19.setCell ⟨go12, (((rd_T77 l1 x12_1).f0) : Int).toNat, none⟩ (.int .i64 (wrap64 ((rd x5_1 ((rd_T77 l1 x12_1).f0)) - ((rd_T77 l1 x12_1).f2)))))) := ⟨by repeat (first | (with_reducible first | exact HB.out | apply below_alloc | apply pw_below_drewN | apply below_drew1 | refine below_set ?_ GB12.out | refine below_set ?_ GE211.out) | exact HB.out)⟩; (try clear HO_5); (try clear BK211); (try clear HB); generalize (w19.setCell ⟨go12, (((rd_T77 l1 x12_1).f0) : Int).toNat, none⟩ (.int .i64 (wrap64 ((rd x5_1 ((rd_T77 l1 x12_1).f0)) - ((rd_T77 l1 x12_1).f2))))) = w22 at n0_ n1_ n2_ ⊢; have HO_5 := n0_; have BK211 := n1_; have HB := n2_; clear n0_ n1_ n2_; have n0_ := Aside0.mk (Kd.R_drew HO_5.out); have n1_ := Aside0.mk (blk_drew BK211.out); have n2_ := Aside0.mk (below_drew1 HB.out); clear HO_5; clear BK211; clear HB; have HO_5 := n0_; have BK211 := n1_; have HB := n2_; clear n0_ n1_ n2_; have p214 : 0 ≤ (((rd_T77 l1 x12_1).f1) : Int) := of_decide_eq_true z2_; have q214 : ((rd_T77 l1 x12_1).f1) < (y213.length : Int) := (by have h_ : (((rd_T77 l1 x12_1).f1) : Int) < ((x5_1.length : Int) : Int) := of_decide_eq_true z2_; first | (have e_ := (Kd.R_reads' HO_5.out).1; omega) | simpa only [Ny213.out, List.length_set] using h_); have ql214 : ((((rd_T77 l1 x12_1).f1) : Int) < ((x5_1.length : Int) : Int)) = True := eq_true (of_decide_eq_true z2_); obtain ⟨ad214, e214, hx214_0⟩ := Kd.at_int (Kd.R_reads' HO_5.out).2.2 ((rd_T77 l1 x12_1).f1) p214 q214; obtain rfl : (⟨go12, 0, none⟩ : Addr) = ad214 := (by injection e214); (first | simp only [add_plain] at hx214_0 | simp only [add_at] at hx214_0 | simp only [Addr.add, Nat.zero_add] at hx214_0 | skip); replace p214 := eq_true p214; replace q214 := eq_true q214; have p15 : 0 ≤ (((rd_T77 l1 x12_1).f1) : Int) := of_decide_eq_true z2_; have q15 : (((rd_T77 l1 x12_1).f1) : Int) < ((x5_1.length : Int) : Int) := of_decide_eq_true z2_; obtain ⟨hx15_0, hf15_0⟩ := Kd.R_celln 0 HO_5.out (((rd_T77 l1 x12_1).f1) : Int) p15 q15; replace p15 := eq_true p15; replace q15 := eq_true q15; have HP24 := Kd.R_putn HO_5.out (((rd_T77 l1 x12_1).f1) : Int) (wrap64 ((rd y213 ((rd_T77 l1 x12_1).f1)) + ((rd_T77 l1 x12_1).f2))); rw [← Ny215.out] at HP24; have HQ24 := Aside0.mk HP24; clear HP24; refine start_ (n := 10) (S := fun w' => w'.cell? ⟨gb211, 0, none⟩ = some (.int .i64 ((rd_T77 l1 x12_1).f0)) ∧ w'.cell? ⟨gb211, 1, none⟩ = some (.int .i64 ((rd_T77 l1 x12_1).f1)) ∧ w'.cell? ⟨gb211, 2, none⟩ = some (.int .i64 ((rd_T77 l1 x12_1).f2)) ∧ w'.cell? ⟨go12, (((rd_T77 l1 x12_1).f1)).toNat, none⟩ = some (.int .i64 (rd y213 ((rd_T77 l1 x12_1).f1)))) (ds := [9]) #[false, false, false, false, false, false, false, false, false, false] z4_ rfl rfl ⟨(blk_cell BK211.out 0).trans rfl, (blk_cell BK211.out 1).trans rfl, (blk_cell BK211.out 2).trans rfl, hx214_0⟩ (fun hHeld => ?_); refine with_tabW impl_nets.tab6 impl_nets.bits6 (fun HT_ HW_ => ?_); generalize w22.drew = w23 at HO_5 BK211 HB HQ21 HQ24 hf15_0 hx15_0 hx214_0 hHeld ⊢; refine pure_ (i := 0) (N := some 25) (v := ?_) (a' := ?_) #[true, false, false, false, false, false, false, false, false, false] rfl rfl (any_of HT_.out z4_) (fun _ _ _ h => h) (Or.inl ⟨by rfl, ?_⟩) ?_ ?_; rotate_left
               ·intro w'; go_simp; with_reducible rfl
               rotate_left
               ·simp only [Act.put, List.setIfInBounds_toArray, List.set_cons_zero, List.set_cons_succ, i64_w, i32_w]; rfl
               refine pure_ (i := 1) (N := some 26) (v := ?_) (a' := ?_) #[true, true, false, false, false, false, false, false, false, false] rfl rfl (any_of HT_.out z4_) (fun _ _ _ h => h) (Or.inl ⟨by rfl, ?_⟩) ?_ ?_; rotate_left
               ·intro w'; go_simp; with_reducible rfl
               rotate_left
               ·simp only [Act.put, List.setIfInBounds_toArray, List.set_cons_zero, List.set_cons_succ, i64_w, i32_w]; rfl
               refine pure_ (i := 5) (N := some 30) (v := ?_) (a' := ?_) #[true, true, false, false, false, true, false, false, false, false] rfl rfl (any_of HT_.out z4_) (fun _ _ _ h => h) (Or.inl ⟨by rfl, ?_⟩) ?_ ?_; rotate_left
               ·intro w'; go_simp; with_reducible rfl
               rotate_left
               ·simp only [Act.put, List.setIfInBounds_toArray, List.set_cons_zero, List.set_cons_succ, i64_w, i32_w]; rfl
               refine take_ (i := 2) (N := some 27) (v := ?_) (a' := ?_) #[true, true, true, false, false, true, false, false, false, false] rfl rfl (take_ofW HT_.out HW_.out z4_) (fun _ _ _ h => h) (Or.inl ⟨by rfl, ?_⟩) hHeld ?_ ?_; rotate_left
               ·rintro w' ⟨s0, s1, s2, s3⟩; go_simp; with_reducible rfl
               rotate_left
               ·simp only [Act.put, List.setIfInBounds_toArray, List.set_cons_zero, List.set_cons_succ, i64_w, i32_w]; rfl
               refine pure_ (i := 3) (N := some 28) (v := ?_) (a' := ?_) #[true, true, true, true, false, true, false, false, false, false] rfl rfl (any_of HT_.out z4_) (fun _ _ _ h => h) (Or.inl ⟨by rfl, ?_⟩) ?_ ?_; rotate_left
               ·intro w'; go_simp; with_reducible rfl
               rotate_left
               ·simp only [Act.put, List.setIfInBounds_toArray, List.set_cons_zero, List.set_cons_succ, i64_w, i32_w]; rfl
               refine take_ (i := 4) (N := some 29) (v := ?_) (a' := ?_) #[true, true, true, true, true, true, false, false, false, false] rfl rfl (take_ofW HT_.out HW_.out z4_) (fun _ _ _ h => h) (Or.inl ⟨by rfl, ?_⟩) hHeld ?_ ?_; rotate_left
               ·rintro w' ⟨s0, s1, s2, s3⟩; go_simp; with_reducible rfl
               rotate_left
               ·simp only [Act.put, List.setIfInBounds_toArray, List.set_cons_zero, List.set_cons_succ, i64_w, i32_w]; rfl
               refine take_ (i := 6) (N := some 31) (v := ?_) (a' := ?_) #[true, true, true, true, true, true, true, false, false, false] rfl rfl (take_ofW HT_.out HW_.out z4_) (fun _ _ _ h => h) (Or.inl ⟨by rfl, ?_⟩) hHeld ?_ ?_; rotate_left
               ·rintro w' ⟨s0, s1, s2, s3⟩; go_simp; with_reducible rfl
               rotate_left
               ·simp only [Act.put, List.setIfInBounds_toArray, List.set_cons_zero, List.set_cons_succ, i64_w, i32_w]; rfl
               refine pure_ (i := 7) (N := some 32) (v := ?_) (a' := ?_) #[true, true, true, true, true, true, true, true, false, false] rfl rfl (any_of HT_.out z4_) (fun _ _ _ h => h) (Or.inl ⟨by rfl, ?_⟩) ?_ ?_; rotate_left
               ·intro w'; go_simp; with_reducible rfl
               rotate_left
               ·simp only [Act.put, List.setIfInBounds_toArray, List.set_cons_zero, List.set_cons_succ, i64_w, i32_w]; rfl
               refine pure_ (i := 8) (N := some 33) (v := ?_) (a' := ?_) #[true, true, true, true, true, true, true, true, true, false] rfl rfl (any_of HT_.out z4_) (fun _ _ _ h => h) (Or.inl ⟨by rfl, ?_⟩) ?_ ?_; rotate_left
               ·intro w'; go_simp; with_reducible rfl
               rotate_left
               ·simp only [Act.put, List.setIfInBounds_toArray, List.set_cons_zero, List.set_cons_succ, i64_w, i32_w]; rfl
               refine last_ (i := 9) (N := none) #[true, true, true, true, true, true, true, true, true, true] rfl rfl (one_of HT_.out z4_) (by decide) (fun K hK => ?_); refine skip_ (w1 := ?_) (by rfl) rfl ?_ ?_; rotate_left
               ·go_simp; rfl
               refine hK.out _ _ ?_; clear hK K; refine done_ (done_of HT_.out z4_) ?_; (try go_wp2); go_roundg k1
               case measure => have := HK1.out; omega
               case rel => exact ⟨(y215), (wrap64 (x12_1 + 1)), z5_, H', ⟨z62_⟩, ⟨by (with_reducible repeat (first | apply Kd.R_alloc | apply Kd.R_drewN | apply Kd.R_drew)); exact HQ24.out⟩, ⟨by repeat (first | (with_reducible first | exact HB.out | apply below_alloc | apply pw_below_drewN | apply below_drew1 | refine below_set ?_ GB12.out | refine below_set ?_ GE211.out) | exact HB.out)⟩⟩
              ·rw [if_neg c14] at H; exact absurd H (by simp)
             ·rw [if_neg c13] at H; exact absurd H (by simp)
            ·rw [if_neg c11] at H; exact absurd H (by simp)
           ·rw [if_neg c10] at H; exact absurd H (by simp)
          ·rw [if_neg c9] at H; exact absurd H (by simp)
         ·rw [if_neg c8] at H; exact absurd H (by simp)
        ·rw [if_neg c7] at H; have c7b0 : decide (x12_1 < (l1.length : Int)) = false := decide_eq_false c7; clear c7; obtain rfl := Option.some.inj H; go_wp2; go_ret; exact ⟨_, z3_, z46_, z0_⟩
   ·rw [if_neg c4] at H; exact absurd H (by simp)
  ·rw [if_neg c3] at H; exact absurd H (by simp)

/-! ### impl_NetsOf: function 40 -/
def impl_NetsOf.f (k : Nat) (a0 : Int) (l1 : List (S77)) : Option (List Int × Int) := (impl_ValidDebts.f k a0 l1).bind fun t216 => (if t216 = true then ((impl_nets.f k a0 l1).bind fun t217 => (some (t217, 0))) else (some (([] : List Int), 1)))
theorem impl_NetsOf.mono : ∀ a0 a1 k, LeO (impl_NetsOf.f k a0 a1) (impl_NetsOf.f (k + 1) a0 a1) := by
  intro a0 a1 k; unfold impl_NetsOf.f
  repeat' first
      | (with_reducible exact impl_ValidDebts.mono _ _ _)
      | (with_reducible exact impl_nets.mono _ _ _)
      | (with_reducible exact LeO.refl _)
      | (with_reducible exact LeO.none _)
      | (with_reducible refine LeO.ite ?_ ?_)
      | (with_reducible refine LeO.bind ?_ (fun _ => ?_))
      | exact impl_ValidDebts.mono _ _ _
      | exact impl_nets.mono _ _ _
      | exact LeO.none _
      | refine LeO.ite ?_ ?_
      | refine LeO.bind ?_ (fun _ => ?_)
set_option maxHeartbeats 8000000 in
set_option maxRecDepth 100000 in
theorem impl_NetsOf.calls (k : Nat) (a0 : Int) (A1 : Option Addr) (c1 : Nat) (l1 : List (S77)) (r1 : List Int) (r2 : Int) (w : World) (hr1 : Kd.C k77 w A1 l1.length l1) (hc1 : l1.length ≤ c1) (h : impl_NetsOf.f k a0 l1 = some (r1, r2)) :
    Calls Tryd.prog 40 #[.int .i64 a0, .slice A1 l1.length c1] w fun e w' => ∃ v0_ : Value, e = .returned (.tuple #[v0_, .int .i64 r2]) ∧ Kd.R (Kd.int .i64) 2 w' w.heap.size (fun _ => True) v0_ r1 ∧ Below w.heap.size w w' := by
  have HR1 := Aside0.mk hr1; have HC1 := Aside0.mk hc1; clear hr1 hc1; have HB := Aside0.mk (Below.refl w.heap.size w); have H : ((impl_ValidDebts.f k a0 l1).bind fun t216 => (if t216 = true then ((impl_nets.f k a0 l1).bind fun t217 => (some (t217, 0))) else (some (([] : List Int), 1)))) = some (r1, r2) := h; clear h; replace H := Option.bind_eq_some_iff.mp H; obtain ⟨t216, A30, H⟩ := H; replace H : (if t216 = true then ((impl_nets.f k a0 l1).bind fun t217 => (some (t217, 0))) else (some (([] : List Int), 1))) = some (r1, r2) := H; have A3 := Aside0.mk A30; clear A30; by_cases c4 : t216 = true
  ·subst c4; (have H1 : ((impl_nets.f k a0 l1).bind fun t217 => (some (t217, 0))) = some (r1, r2) := z39_); clear H; have H := H1; clear H1; replace H := Option.bind_eq_some_iff.mp H; obtain ⟨t217, A50, H⟩ := H; replace H : (some (t217, 0)) = some (r1, r2) := H; have A5 := Aside0.mk A50; clear A50; simp only [Option.some.injEq, Prod.mk.injEq] at H; obtain ⟨rfl, rfl⟩ := H; go_enter Tryd.func40, Tryd.ntmps40; go_wp2_with (first | ((with_reducible refine gate_callee (f := 50) rfl ?_); refine goesL_ (some 8) rfl rfl Tryd.func50 z4_ rfl #[.int .i64 a0, .slice A1 l1.length c1] rfl z1_ ?_; (with_reducible refine (impl_ValidDebts.calls k a0 _ _ l1 true _ ?side1 ?side2 A3.out).mono ?_); (case side1 => repeat (first | exact HR1.out | (with_reducible refine Kd.C_alloc ?_ _) | (with_reducible refine Kd.C_drewN ?_ _) | (with_reducible refine Kd.C_drew ?_))); (case side2 => exact HC1.out); rintro e w6 ⟨rfl, hb⟩; refine ⟨_, rfl, ?_⟩; have n0_ := Aside0.mk (below_step z0_ hb); clear HB; have HB := n0_; clear n0_; (try clear hb); (try clear hb2); (try clear hk); (try clear hi)) | ((with_reducible refine gate_callee (f := 89) rfl ?_); refine goesL_ (some 12) rfl rfl Tryd.func89 z4_ rfl #[.int .i64 a0, .slice A1 l1.length c1] rfl z1_ ?_; (with_reducible refine (impl_nets.calls k a0 _ _ l1 t217 _ ?side1 ?side2 A5.out).mono ?_); (case side1 => repeat (first | exact (Kd.C_below HR1.out HB.out) | (with_reducible refine Kd.C_alloc ?_ _) | (with_reducible refine Kd.C_drewN ?_ _) | (with_reducible refine Kd.C_drew ?_))); (case side2 => exact HC1.out); rintro e w7 ⟨v218, rfl, ho0, hb⟩; refine ⟨_, rfl, ?_⟩; have n0_ := Aside0.mk (Kd.R_lower ho0 (below_size z0_)); have n1_ := Aside0.mk (below_step z0_ hb); clear HB; have HO219 := n0_; have HB := n1_; clear n0_ n1_; (try clear hb); (try clear hb2); (try clear hk); (try clear hi); (try clear ho0))); go_ret2; exact ⟨_, z3_, by (with_reducible repeat (first | apply Kd.R_alloc | apply Kd.R_drewN | apply Kd.R_drew)); exact HO219.out, z0_⟩
  ·replace c4 := Bool.eq_false_iff.mpr c4; subst c4; (have H1 : (some (([] : List Int), 1)) = some (r1, r2) := z17_); clear H; have H := H1; clear H1; simp only [Option.some.injEq, Prod.mk.injEq] at H; obtain ⟨rfl, rfl⟩ := H; go_enter Tryd.func40, Tryd.ntmps40; go_wp2_with (first | ((with_reducible refine gate_callee (f := 50) rfl ?_); refine goesL_ (some 8) rfl rfl Tryd.func50 z4_ rfl #[.int .i64 a0, .slice A1 l1.length c1] rfl z1_ ?_; (with_reducible refine (impl_ValidDebts.calls k a0 _ _ l1 false _ ?side1 ?side2 A3.out).mono ?_); (case side1 => repeat (first | exact HR1.out | (with_reducible refine Kd.C_alloc ?_ _) | (with_reducible refine Kd.C_drewN ?_ _) | (with_reducible refine Kd.C_drew ?_))); (case side2 => exact HC1.out); rintro e w8 ⟨rfl, hb⟩; refine ⟨_, rfl, ?_⟩; have n0_ := Aside0.mk (below_step z0_ hb); clear HB; have HB := n0_; clear n0_; (try clear hb); (try clear hb2); (try clear hk); (try clear hi))); go_ret2; exact ⟨_, z3_, z23_, z0_⟩

/-! ### spec_l00In: function 103 -/
def spec_l00In.f (a0 : Int) (a1 : Int) (a2 : Int) : Option (Bool) := if a0 ≥ a1 then (some (decide (a0 ≤ a2))) else (some false)
set_option maxHeartbeats 8000000 in
set_option maxRecDepth 100000 in
theorem spec_l00In.calls (a0 : Int) (a1 : Int) (a2 : Int) (r : Bool) (w : World) (h : spec_l00In.f a0 a1 a2 = some r) :
    Calls Tryd.prog 103 #[.int .i64 a0, .int .i64 a1, .int .i64 a2] w fun e w' => e = .returned (.bool r) ∧ Drawn0 w w' := by
  have H : (if a0 ≥ a1 then (some (decide (a0 ≤ a2))) else (some false)) = some r := h; clear h; by_cases c4 : a0 ≥ a1
  ·rw [if_pos c4] at H; have c4b0 : decide (a1 ≤ a0) = true := decide_eq_true c4; clear c4; obtain rfl := Option.some.inj H; go_enter Tryd.func103, Tryd.ntmps103; go_wp2; go_ret; exact ⟨z5_, z10_⟩
  ·rw [if_neg c4] at H; have c4b0 : decide (a1 ≤ a0) = false := decide_eq_false c4; clear c4; obtain rfl := Option.some.inj H; go_enter Tryd.func103, Tryd.ntmps103; go_wp2; go_ret; exact ⟨z5_, z10_⟩

/-! ### spec_l02Person: function 104 -/
def spec_l02Person.f (a0 : Int) (a1 : Int) : Option (Bool) := (spec_l00In.f a1 0 (wrap64 (a0 - 1))).bind fun t220 => (some t220)
set_option maxHeartbeats 8000000 in
set_option maxRecDepth 100000 in
theorem spec_l02Person.calls (a0 : Int) (a1 : Int) (r : Bool) (w : World) (h : spec_l02Person.f a0 a1 = some r) :
    Calls Tryd.prog 104 #[.int .i64 a0, .int .i64 a1] w fun e w' => e = .returned (.bool r) ∧ Drawn0 w w' := by
  have H : ((spec_l00In.f a1 0 (wrap64 (a0 - 1))).bind fun t220 => (some t220)) = some r := h; clear h; replace H := Option.bind_eq_some_iff.mp H; obtain ⟨t220, A30, H⟩ := H; replace H : (some t220) = some r := H; have A3 := Aside0.mk A30; clear A30; obtain rfl := Option.some.inj H; go_enter Tryd.func104, Tryd.ntmps104; go_wp2_with (first | ((with_reducible refine gate_callee (f := 103) rfl ?_); refine goesL_ (some 8) rfl rfl Tryd.func103 z4_ rfl #[.int .i64 a1, .int .i64 0, .int .i64 (wrap64 (a0 - 1))] rfl z1_ ?_; (with_reducible refine (spec_l00In.calls a1 0 (wrap64 (a0 - 1)) t220 _ A3.out).mono ?_); rintro e w' ⟨rfl, ⟨nd, rfl⟩⟩; refine ⟨_, rfl, ?_⟩)); go_ret; exact ⟨z5_, z10_⟩

end Go.Proofs.YtfjmljgbdejghaaDoor.MNets
