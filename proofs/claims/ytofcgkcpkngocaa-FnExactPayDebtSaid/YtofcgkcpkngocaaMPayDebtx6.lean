-- by a program of this session, for this claim
import Derived.Test.YtofcgkcpkngocaaMPayDebtx0
import Derived.Test.YtofcgkcpkngocaaMPayDebtx5
namespace Go.Proofs.Ytofcgkcpkngocaa.MPayDebt
open Go.RowKit Go.Proofs.YtofcgkcpkngocaaW.PrintWords Go.Proofs.YtofcgkcpkngocaaW.PrintLast Go.Proofs.YtofcgkcpkngocaaW.PrintMore
attribute [local go_sem] max2_int min2_int max_two min_two max_three min_three max_four min_four   -- for this text's walks alone
set_option linter.unusedVariables false
set_option linter.unusedSimpArgs false

/-! ### impl_sumsOf: function 57 -/
def impl_sumsOf.l0 : Nat → List (S65) → Int → Int → Vector Int 256 → Option (Vector Int 256)
  | 0, _, _, _, _ => none
  | k + 1, x7, x8, x9, x177000 => if x9 < x8 then (if 0 ≤ x9 then (if x9 < (x7.length : Int) then (if 0 ≤ ((rd_T65 x7 x9).f0) then (if ((rd_T65 x7 x9).f0) < 16 then (if 0 ≤ ((rd_T65 x7 x9).f1) then (if ((rd_T65 x7 x9).f1) < 16 then (impl_sumsOf.l0 k x7 x8 (wrap64 (x9 + 1)) (Arr.vst2 16 x177000 ((rd_T65 x7 x9).f0) ((rd_T65 x7 x9).f1) (wrap64 ((Arr.vrd2 16 x177000 ((rd_T65 x7 x9).f0) ((rd_T65 x7 x9).f1)) + ((rd_T65 x7 x9).f2))))) else (none)) else (none)) else (none)) else (none)) else (none)) else (none)) else (some x177000)
def impl_sumsOf.f (k : Nat) (l0 : List (S65)) : Option (Vector Int 256) := impl_sumsOf.l0 k l0 (l0.length : Int) 0 (Vector.replicate 256 0 : Vector Int 256)
theorem impl_sumsOf.mono_l : ∀ k, (∀ y0 y1 y2 y3, LeO (impl_sumsOf.l0 k y0 y1 y2 y3) (impl_sumsOf.l0 (k + 1) y0 y1 y2 y3))
  | 0 => fun _ _ _ _ r h => by simp [impl_sumsOf.l0] at h
  | k + 1 => by
    have ih0 := impl_sumsOf.mono_l k
    · intro y0 y1 y2 y3
      unfold impl_sumsOf.l0
      repeat' first
      | (with_reducible exact ih0 _ _ _ _)
      | (with_reducible exact LeO.refl _)
      | (with_reducible exact LeO.none _)
      | (with_reducible refine LeO.ite ?_ ?_)
      | (with_reducible refine LeO.bind ?_ (fun _ => ?_))
      | exact ih0 _ _ _ _
      | exact LeO.none _
      | refine LeO.ite ?_ ?_
      | refine LeO.bind ?_ (fun _ => ?_)
theorem impl_sumsOf.mono : ∀ a0 k, LeO (impl_sumsOf.f k a0) (impl_sumsOf.f (k + 1) a0) := by
  intro a0 k
  have ih0 := impl_sumsOf.mono_l k
  unfold impl_sumsOf.f
  repeat' first
      | (with_reducible exact ih0 _ _ _ _)
      | (with_reducible exact LeO.refl _)
      | (with_reducible exact LeO.none _)
      | (with_reducible refine LeO.ite ?_ ?_)
      | (with_reducible refine LeO.bind ?_ (fun _ => ?_))
      | exact ih0 _ _ _ _
      | exact LeO.none _
      | refine LeO.ite ?_ ?_
      | refine LeO.bind ?_ (fun _ => ?_)
def impl_sumsOf.T5 : Bool × List (List Nat × List Nat) := (true, [([], []), ([0], [0]), ([], []), ([2], [2]), ([1], [1]), ([4, 3], [3, 4]), ([5], [5]), ([], []), ([7], [7]), ([6, 8], [6, 8]), ([1], [1]), ([10, 3, 0, 1, 2, 3, 4, 5, 6, 7, 8, 9], [3, 10]), ([11, 9, 0, 1, 2, 3, 4, 5, 6, 7, 8, 9], [9, 11])])
def impl_sumsOf.B5 : List Nat := [0, 1, 0, 4, 3, 31, 63, 0, 128, 511, 3, 2047, 4095]
theorem impl_sumsOf.tab5 : rtab .any (opsOf Try.f57 5) = impl_sumsOf.T5 := by kernel_rfl
theorem impl_sumsOf.bits5 : waitsOk impl_sumsOf.T5.2 impl_sumsOf.B5 = true := by kernel_rfl
set_option maxHeartbeats 8000000 in
set_option maxRecDepth 100000 in
theorem impl_sumsOf.calls (k : Nat) (A0 : Option Addr) (c0 : Nat) (l0 : List (S65)) (r : Vector Int 256) (w : World) (hr0 : Kd.C k65 w A0 l0.length l0) (hc0 : l0.length ≤ c0) (h : impl_sumsOf.f k l0 = some r) :
    Calls Try.prog 57 #[.slice A0 l0.length c0] w fun e w' => e = .returned (.agg (⟨Arr.arL .i64 r⟩ : Array Value)) ∧ Below w.heap.size w w' := by
  have hu70 := Try.underlying70
  have hu65 := Try.underlying65
  have HR0 := Aside0.mk hr0
  have HC0 := Aside0.mk hc0
  clear hr0 hc0
  have HB := Aside0.mk (Below.refl w.heap.size w)
  have H : (impl_sumsOf.l0 k l0 (l0.length : Int) 0 (Vector.replicate 256 0 : Vector Int 256)) = some r := h
  clear h
  have H' := Aside0.mk H
  clear H
  go_enter Try.func57, Try.ntmps57
  go_wp2_with (first | ((with_reducible refine gate_dst (N := 2) rfl ?_); refine box_event ?hg (N := 2) ?hd (cs := (⟨Arr.arL .i64 (Vector.replicate 256 0 : Vector Int 256)⟩ : Array Value)) (t := 70) ?hr ?_; (case hd => rfl); (case hg => rfl); (case hr => first | (go_simp; done) | (go_simp; rfl)); intro gb175 hg w3 hbox hb; have n0_ := Aside0.mk (below_step (by repeat (first | (with_reducible first | exact HB.out | apply below_alloc | apply pw_below_drewN | apply below_drew1) | exact HB.out)) hb); have n1_ := Aside0.mk (hbox); have n2_ := Aside0.mk ((by rw [hg]; exact (below_size (by repeat (first | (with_reducible first | exact HB.out | apply below_alloc | apply pw_below_drewN | apply below_drew1) | exact HB.out))) : w.heap.size ≤ gb175)); have n3_ := Aside0.mk ((by rw [hg]; exact (below_size (by repeat (first | (with_reducible first | exact HB.out | apply below_alloc | apply pw_below_drewN | apply below_drew1) | exact HB.out))) : w.heap.size ≤ gb175)); clear HB; have HB := n0_; have BK175 := n1_; have GW175 := n2_; have GE175 := n3_; clear n0_ n1_ n2_ n3_; clear hb hbox hg) | ((with_reducible refine gate_dst (N := 3) rfl ?_); refine box_event ?hg (N := 3) ?hd (cs := (⟨Arr.arL .i64 (Vector.replicate 256 0 : Vector Int 256)⟩ : Array Value)) (t := 70) ?hr ?_; (case hd => rfl); (case hg => rfl); (case hr => first | (go_simp; done) | (go_simp; rfl)); intro gb176 hg w4 hbox hb; have n0_ := Aside0.mk (blk_below (g := gb175) (o := .cells (⟨Arr.arL .i64 (Vector.replicate 256 0 : Vector Int 256)⟩ : Array Value) 70 (0, 0)) (by (with_reducible repeat (first | refine blk_drewN ?_ _ | refine blk_drew ?_ | refine blk_alloc ?_ _)); exact BK175.out) hb); have n1_ := Aside0.mk (below_step (by repeat (first | (with_reducible first | exact HB.out | apply below_alloc | apply pw_below_drewN | apply below_drew1 | refine below_set ?_ GE175.out) | exact HB.out)) hb); have n2_ := Aside0.mk (hbox); have n3_ := Aside0.mk ((by rw [hg]; exact (below_size (by repeat (first | (with_reducible first | exact HB.out | apply below_alloc | apply pw_below_drewN | apply below_drew1 | refine below_set ?_ GE175.out) | exact HB.out))) : w.heap.size ≤ gb176)); have n4_ := Aside0.mk ((by rw [hg]; exact (below_size (by repeat (first | (with_reducible first | exact HB.out | apply below_alloc | apply pw_below_drewN | apply below_drew1 | refine below_set ?_ GE175.out) | exact HB.out))) : w.heap.size ≤ gb176)); have n5_ := Aside0.mk ((by rw [hg]; exact Nat.ne_of_lt (blk_lt (g := gb175) (o := .cells (⟨Arr.arL .i64 (Vector.replicate 256 0 : Vector Int 256)⟩ : Array Value) 70 (0, 0)) (by (with_reducible repeat (first | refine blk_drewN ?_ _ | refine blk_drew ?_ | refine blk_alloc ?_ _)); exact BK175.out)) : gb175 ≠ gb176)); have n6_ := Aside0.mk ((by rw [hg]; exact Nat.ne_of_gt (blk_lt (g := gb175) (o := .cells (⟨Arr.arL .i64 (Vector.replicate 256 0 : Vector Int 256)⟩ : Array Value) 70 (0, 0)) (by (with_reducible repeat (first | refine blk_drewN ?_ _ | refine blk_drew ?_ | refine blk_alloc ?_ _)); exact BK175.out)) : gb176 ≠ gb175)); clear BK175; clear HB; have BK175 := n0_; have HB := n1_; have BK176 := n2_; have GW176 := n3_; have GE176 := n4_; have NB175_176 := n5_; have NB176_175 := n6_; clear n0_ n1_ n2_ n3_ n4_ n5_ n6_; clear hb hbox hg) | ((with_reducible refine gate_store (t := 70) (p := 3) rfl ?_); refine Arr.storeA ?hg (T := 70) (p := 3) (v := ?vo_w5) ?ho ?hn (g := gb176) (off := 0) ?hx (m := (Arr.arL .i64 (Vector.replicate 256 0 : Vector Int 256))) ?hy (t := 70) (pre := []) (old := (Arr.arL .i64 (Vector.replicate 256 0 : Vector Int 256))) (show w4.heap[gb176]? = some (.cells (⟨Arr.arL .i64 (Vector.replicate 256 0 : Vector Int 256)⟩ : Array Value) 70 (0, 0)) from by (with_reducible repeat (first | refine blk_drewN ?_ _ | refine blk_drew ?_ | refine blk_alloc ?_ _)); exact BK176.out) rfl (by simp [Arr.arL_length]) (n := 256) (by kernel_rfl) (by simp [Arr.arL_length]) (Arr.ones_0 ) ?_; (case ho => rfl); (case hg => rfl); (case hn => rfl); (case hx => first | (go_simp; done) | rfl | (go_simp; rfl)); (case hy => first | (go_simp; done) | rfl | (go_simp; rfl)); intro w5 hbx hg hbe; replace hbx : w5.heap[gb176]? = some (.cells (⟨Arr.arL .i64 (Vector.replicate 256 0 : Vector Int 256)⟩ : Array Value) 70 (0, 0)) := hbx; have n0_ := Aside0.mk (blk_grown (g := gb175) (o := .cells (⟨Arr.arL .i64 (Vector.replicate 256 0 : Vector Int 256)⟩ : Array Value) 70 (0, 0)) (by (with_reducible repeat (first | refine blk_drewN ?_ _ | refine blk_drew ?_ | refine blk_alloc ?_ _)); exact BK175.out) hg (fun e_ => NB175_176.out (Option.some.inj e_))); have n1_ := Aside0.mk (hbx); have n2_ := Aside0.mk (hbe _ _ (by repeat (first | (with_reducible first | exact HB.out | apply below_alloc | apply pw_below_drewN | apply below_drew1 | refine below_set ?_ GE175.out | refine below_set ?_ GE176.out) | exact HB.out)) GE176.out); clear BK175; clear BK176; clear HB; have BK175 := n0_; have BK176 := n1_; have HB := n2_; clear n0_ n1_ n2_; (try clear hbx hg hbe)))
  go_loopg [9] k (fun kq v9 w' => ∃ (x9_1 : Int) (x177000_1 : Vector Int 256), v9 = .int .i64 x9_1 ∧ Aside0 (impl_sumsOf.l0 kq l0 (l0.length : Int) x9_1 x177000_1 = some r) ∧ Aside0 (kq ≤ k) ∧ Aside0 (w'.heap[gb175]? = some (.cells (⟨Arr.arL .i64 (Vector.replicate 256 0 : Vector Int 256)⟩ : Array Value) 70 (0, 0))) ∧ Aside0 (w'.heap[gb176]? = some (.cells (⟨Arr.arL .i64 x177000_1⟩ : Array Value) 70 (0, 0))) ∧ Aside0 (Below w.heap.size w w'))
  case atStart => exact ⟨(0), ((Vector.replicate 256 0 : Vector Int 256)), (by first | rfl | (simp; done) | (simp [*]; done)), H', ⟨Nat.le_refl _⟩, ⟨by (with_reducible repeat (first | refine blk_drewN ?_ _ | refine blk_drew ?_ | refine blk_alloc ?_ _)); exact BK175.out⟩, ⟨by (with_reducible repeat (first | refine blk_drewN ?_ _ | refine blk_drew ?_ | refine blk_alloc ?_ _)); exact BK176.out⟩, ⟨by repeat (first | (with_reducible first | exact HB.out | apply below_alloc | apply pw_below_drewN | apply below_drew1 | refine below_set ?_ GE175.out | refine below_set ?_ GE176.out) | exact HB.out)⟩⟩
  case round =>
    clear H'
    try clear p2
    try clear c5
    obtain ⟨x9_1, x177000_1, rfl, HA, HK1, BK175, BK176, HB⟩ := hrel
    cases gk with
    | zero => exact absurd HA.out (by simp [impl_sumsOf.l0])
    | succ k1 =>
      have H := HA.out
      clear HA
      simp only [impl_sumsOf.l0] at H
      by_cases c6 : x9_1 < (l0.length : Int)
      · rw [if_pos c6] at H
        have c6b0 : decide (x9_1 < (l0.length : Int)) = true := decide_eq_true c6
        clear c6
        by_cases c7 : 0 ≤ x9_1
        · rw [if_pos c7] at H
          have c7b0 : decide (0 ≤ x9_1) = true := decide_eq_true c7
          clear c7
          by_cases c8 : x9_1 < (l0.length : Int)
          · rw [if_pos c8] at H
            have c8b0 : decide (x9_1 < (l0.length : Int)) = true := decide_eq_true c8
            clear c8
            by_cases c9 : 0 ≤ ((rd_T65 l0 x9_1).f0)
            · rw [if_pos c9] at H
              have c9b0 : decide (0 ≤ ((rd_T65 l0 x9_1).f0)) = true := decide_eq_true c9
              clear c9
              by_cases c10 : ((rd_T65 l0 x9_1).f0) < 16
              · rw [if_pos c10] at H
                have c10b0 : decide (((rd_T65 l0 x9_1).f0) < 16) = true := decide_eq_true c10
                clear c10
                by_cases c12 : 0 ≤ ((rd_T65 l0 x9_1).f1)
                · rw [if_pos c12] at H
                  have c12b0 : decide (0 ≤ ((rd_T65 l0 x9_1).f1)) = true := decide_eq_true c12
                  clear c12
                  by_cases c13 : ((rd_T65 l0 x9_1).f1) < 16
                  · rw [if_pos c13] at H
                    have c13b0 : decide (((rd_T65 l0 x9_1).f1) < 16) = true := decide_eq_true c13
                    clear c13
                    obtain ⟨y179, hy179⟩ : ∃ y_ : Vector Int 256, y_ = (Arr.vst2 16 x177000_1 ((rd_T65 l0 x9_1).f0) ((rd_T65 l0 x9_1).f1) (wrap64 ((Arr.vrd2 16 x177000_1 ((rd_T65 l0 x9_1).f0) ((rd_T65 l0 x9_1).f1)) + ((rd_T65 l0 x9_1).f2)))) := ⟨_, rfl⟩
                    replace H : (impl_sumsOf.l0 k1 l0 (l0.length : Int) (wrap64 (x9_1 + 1)) y179) = some r := by first | (rw [hy179]; with_reducible exact H) | (have H2_ := (Option.bind_some _ _).symm.trans H; rw [hy179]; with_reducible exact H2_) | (have H2_ := (Option.bind_some _ _).symm.trans H; with_reducible exact H2_) | with_reducible exact H | (rw [hy179]; exact H) | exact H
                    have Ny179 := Aside0.mk hy179
                    clear hy179
                    have H' := Aside0.mk H
                    clear H
                    have p177 : 0 ≤ (x9_1 : Int) := of_decide_eq_true (by first | (with_reducible assumption) | assumption)
                    have q177 : x9_1 < (l0.length : Int) := of_decide_eq_true (by first | (with_reducible assumption) | assumption)
                    obtain ⟨ad177, e177, hx177_0, hx177_1, hx177_2⟩ := at_T65 HR0.out x9_1 p177 q177
                    cases e177
                    replace hx177_0 := (HB.out.cell (World.block_lt_of_cell? w _ hx177_0)).trans hx177_0
                    replace hx177_1 := (HB.out.cell (World.block_lt_of_cell? w _ hx177_1)).trans hx177_1
                    replace hx177_2 := (HB.out.cell (World.block_lt_of_cell? w _ hx177_2)).trans hx177_2
                    replace p177 := eq_true p177
                    replace q177 := eq_true q177
                    try go_wp2_with (first | ((with_reducible refine gate_dst (N := 5) rfl ?_); refine box_event ?hg (N := 5) ?hd (cs := #[.int .i64 0, .int .i64 0, .int .i64 0]) (t := 65) ?hr ?_; (case hd => rfl); (case hg => rfl); (case hr => first | (go_simp; done) | (go_simp; rfl)); intro gb178 hg w19 hbox hb; have n0_ := Aside0.mk (blk_below (g := gb175) (o := .cells (⟨Arr.arL .i64 (Vector.replicate 256 0 : Vector Int 256)⟩ : Array Value) 70 (0, 0)) (by (with_reducible repeat (first | refine blk_drewN ?_ _ | refine blk_drew ?_ | refine blk_alloc ?_ _)); exact BK175.out) hb); have n1_ := Aside0.mk (blk_below (g := gb176) (o := .cells (⟨Arr.arL .i64 x177000_1⟩ : Array Value) 70 (0, 0)) (by (with_reducible repeat (first | refine blk_drewN ?_ _ | refine blk_drew ?_ | refine blk_alloc ?_ _)); exact BK176.out) hb); have n2_ := Aside0.mk (below_step (by repeat (first | (with_reducible first | exact HB.out | apply below_alloc | apply pw_below_drewN | apply below_drew1 | refine below_set ?_ GE175.out | refine below_set ?_ GE176.out) | exact HB.out)) hb); have n3_ := Aside0.mk (hbox); have n4_ := Aside0.mk ((by rw [hg]; exact (below_size (by repeat (first | (with_reducible first | exact HB.out | apply below_alloc | apply pw_below_drewN | apply below_drew1 | refine below_set ?_ GE175.out | refine below_set ?_ GE176.out) | exact HB.out))) : w.heap.size ≤ gb178)); have n5_ := Aside0.mk ((by rw [hg]; exact (below_size (by repeat (first | (with_reducible first | exact HB.out | apply below_alloc | apply pw_below_drewN | apply below_drew1 | refine below_set ?_ GE175.out | refine below_set ?_ GE176.out) | exact HB.out))) : w.heap.size ≤ gb178)); have n6_ := Aside0.mk ((by rw [hg]; exact Nat.ne_of_lt (blk_lt (g := gb175) (o := .cells (⟨Arr.arL .i64 (Vector.replicate 256 0 : Vector Int 256)⟩ : Array Value) 70 (0, 0)) (by (with_reducible repeat (first | refine blk_drewN ?_ _ | refine blk_drew ?_ | refine blk_alloc ?_ _)); exact BK175.out)) : gb175 ≠ gb178)); have n7_ := Aside0.mk ((by rw [hg]; exact Nat.ne_of_gt (blk_lt (g := gb175) (o := .cells (⟨Arr.arL .i64 (Vector.replicate 256 0 : Vector Int 256)⟩ : Array Value) 70 (0, 0)) (by (with_reducible repeat (first | refine blk_drewN ?_ _ | refine blk_drew ?_ | refine blk_alloc ?_ _)); exact BK175.out)) : gb178 ≠ gb175)); have n8_ := Aside0.mk ((by rw [hg]; exact Nat.ne_of_lt (blk_lt (g := gb176) (o := .cells (⟨Arr.arL .i64 x177000_1⟩ : Array Value) 70 (0, 0)) (by (with_reducible repeat (first | refine blk_drewN ?_ _ | refine blk_drew ?_ | refine blk_alloc ?_ _)); exact BK176.out)) : gb176 ≠ gb178)); have n9_ := Aside0.mk ((by rw [hg]; exact Nat.ne_of_gt (blk_lt (g := gb176) (o := .cells (⟨Arr.arL .i64 x177000_1⟩ : Array Value) 70 (0, 0)) (by (with_reducible repeat (first | refine blk_drewN ?_ _ | refine blk_drew ?_ | refine blk_alloc ?_ _)); exact BK176.out)) : gb178 ≠ gb176)); clear BK175; clear BK176; clear HB; have BK175 := n0_; have BK176 := n1_; have HB := n2_; have BK178 := n3_; have GW178 := n4_; have GE178 := n5_; have NB175_178 := n6_; have NB178_175 := n7_; have NB176_178 := n8_; have NB178_176 := n9_; clear n0_ n1_ n2_ n3_ n4_ n5_ n6_ n7_ n8_ n9_; clear hb hbox hg; have hnb20 := NB178_175.out; have hnc20 := NB175_178.out; have hnb21 := NB178_176.out; have hnc21 := NB176_178.out; have hcz22_0 : w19.cell? ⟨gb178, 0, none⟩ = some (.int .i64 0) := (blk_cell BK178.out 0).trans rfl; have hcz22_1 : w19.cell? ⟨gb178, 1, none⟩ = some (.int .i64 0) := (blk_cell BK178.out 1).trans rfl; have hcz22_2 : w19.cell? ⟨gb178, 2, none⟩ = some (.int .i64 0) := (blk_cell BK178.out 2).trans rfl; have hfz22_0 := blk_frozen BK178.out 0; have hfz22_1 := blk_frozen BK178.out 1; have hfz22_2 := blk_frozen BK178.out 2))
                    have n0_ : Aside0 ((((w19.setCell ⟨gb178, 0, none⟩ (.int .i64 ((rd_T65 l0 x9_1).f0))).setCell ⟨gb178, 1, none⟩ (.int .i64 ((rd_T65 l0 x9_1).f1))).setCell ⟨gb178, 2, none⟩ (.int .i64 ((rd_T65 l0 x9_1).f2))).heap[gb175]? = some (.cells (⟨Arr.arL .i64 (Vector.replicate 256 0 : Vector Int 256)⟩ : Array Value) 70 (0, 0))) := ⟨by (with_reducible repeat (first | refine blk_drewN ?_ _ | refine blk_drew ?_ | refine blk_alloc ?_ _)); refine blk_far ?_ NB175_178.out _; (with_reducible repeat (first | refine blk_drewN ?_ _ | refine blk_drew ?_ | refine blk_alloc ?_ _)); refine blk_far ?_ NB175_178.out _; (with_reducible repeat (first | refine blk_drewN ?_ _ | refine blk_drew ?_ | refine blk_alloc ?_ _)); refine blk_far ?_ NB175_178.out _; (with_reducible repeat (first | refine blk_drewN ?_ _ | refine blk_drew ?_ | refine blk_alloc ?_ _)); exact BK175.out⟩
                    have n1_ : Aside0 ((((w19.setCell ⟨gb178, 0, none⟩ (.int .i64 ((rd_T65 l0 x9_1).f0))).setCell ⟨gb178, 1, none⟩ (.int .i64 ((rd_T65 l0 x9_1).f1))).setCell ⟨gb178, 2, none⟩ (.int .i64 ((rd_T65 l0 x9_1).f2))).heap[gb176]? = some (.cells (⟨Arr.arL .i64 x177000_1⟩ : Array Value) 70 (0, 0))) := ⟨by (with_reducible repeat (first | refine blk_drewN ?_ _ | refine blk_drew ?_ | refine blk_alloc ?_ _)); refine blk_far ?_ NB176_178.out _; (with_reducible repeat (first | refine blk_drewN ?_ _ | refine blk_drew ?_ | refine blk_alloc ?_ _)); refine blk_far ?_ NB176_178.out _; (with_reducible repeat (first | refine blk_drewN ?_ _ | refine blk_drew ?_ | refine blk_alloc ?_ _)); refine blk_far ?_ NB176_178.out _; (with_reducible repeat (first | refine blk_drewN ?_ _ | refine blk_drew ?_ | refine blk_alloc ?_ _)); exact BK176.out⟩
                    have n2_ : Aside0 ((((w19.setCell ⟨gb178, 0, none⟩ (.int .i64 ((rd_T65 l0 x9_1).f0))).setCell ⟨gb178, 1, none⟩ (.int .i64 ((rd_T65 l0 x9_1).f1))).setCell ⟨gb178, 2, none⟩ (.int .i64 ((rd_T65 l0 x9_1).f2))).heap[gb178]? = some (.cells #[.int .i64 ((rd_T65 l0 x9_1).f0), .int .i64 ((rd_T65 l0 x9_1).f1), .int .i64 ((rd_T65 l0 x9_1).f2)] 65 (0, 0))) := ⟨by (with_reducible repeat (first | refine blk_drewN ?_ _ | refine blk_drew ?_ | refine blk_alloc ?_ _)); refine blk_put (cs := #[.int .i64 ((rd_T65 l0 x9_1).f0), .int .i64 ((rd_T65 l0 x9_1).f1), .int .i64 0]) ?_ 2 _ rfl; (with_reducible repeat (first | refine blk_drewN ?_ _ | refine blk_drew ?_ | refine blk_alloc ?_ _)); refine blk_put (cs := #[.int .i64 ((rd_T65 l0 x9_1).f0), .int .i64 0, .int .i64 0]) ?_ 1 _ rfl; (with_reducible repeat (first | refine blk_drewN ?_ _ | refine blk_drew ?_ | refine blk_alloc ?_ _)); refine blk_put (cs := #[.int .i64 0, .int .i64 0, .int .i64 0]) ?_ 0 _ rfl; (with_reducible repeat (first | refine blk_drewN ?_ _ | refine blk_drew ?_ | refine blk_alloc ?_ _)); exact BK178.out⟩
                    have n3_ : Aside0 (Below w.heap.size w (((w19.setCell ⟨gb178, 0, none⟩ (.int .i64 ((rd_T65 l0 x9_1).f0))).setCell ⟨gb178, 1, none⟩ (.int .i64 ((rd_T65 l0 x9_1).f1))).setCell ⟨gb178, 2, none⟩ (.int .i64 ((rd_T65 l0 x9_1).f2)))) := ⟨by repeat (first | (with_reducible first | exact HB.out | apply below_alloc | apply pw_below_drewN | apply below_drew1 | refine below_set ?_ GE175.out | refine below_set ?_ GE176.out | refine below_set ?_ GE178.out) | exact HB.out)⟩
                    (try clear BK175)
                    (try clear BK176)
                    (try clear BK178)
                    (try clear HB)
                    generalize (((w19.setCell ⟨gb178, 0, none⟩ (.int .i64 ((rd_T65 l0 x9_1).f0))).setCell ⟨gb178, 1, none⟩ (.int .i64 ((rd_T65 l0 x9_1).f1))).setCell ⟨gb178, 2, none⟩ (.int .i64 ((rd_T65 l0 x9_1).f2))) = w23 at n0_ n1_ n2_ n3_ ⊢
                    have BK175 := n0_
                    have BK176 := n1_
                    have BK178 := n2_
                    have HB := n3_
                    clear n0_ n1_ n2_ n3_
                    have n0_ := Aside0.mk (blk_drew BK175.out)
                    have n1_ := Aside0.mk (blk_drew BK176.out)
                    have n2_ := Aside0.mk (blk_drew BK178.out)
                    have n3_ := Aside0.mk (below_drew1 HB.out)
                    clear BK175
                    clear BK176
                    clear BK178
                    clear HB
                    have BK175 := n0_
                    have BK176 := n1_
                    have BK178 := n2_
                    have HB := n3_
                    clear n0_ n1_ n2_ n3_
                    have p11 : 0 ≤ (((rd_T65 l0 x9_1).f0) : Int) := of_decide_eq_true (by first | (with_reducible assumption) | assumption)
                    have q11 : (((rd_T65 l0 x9_1).f0) : Int) < 16 := of_decide_eq_true (by first | (with_reducible assumption) | assumption)
                    replace p11 := eq_true p11
                    replace q11 := eq_true q11
                    have p14 : 0 ≤ (((rd_T65 l0 x9_1).f1) : Int) := of_decide_eq_true (by first | (with_reducible assumption) | assumption)
                    have q14 : (((rd_T65 l0 x9_1).f1) : Int) < 16 := of_decide_eq_true (by first | (with_reducible assumption) | assumption)
                    replace p14 := eq_true p14
                    replace q14 := eq_true q14
                    have p16 : 0 ≤ (((rd_T65 l0 x9_1).f0) : Int) := of_decide_eq_true (by first | (with_reducible assumption) | assumption)
                    have q16 : (((rd_T65 l0 x9_1).f0) : Int) < 16 := of_decide_eq_true (by first | (with_reducible assumption) | assumption)
                    replace p16 := eq_true p16
                    replace q16 := eq_true q16
                    have p17 : 0 ≤ (((rd_T65 l0 x9_1).f1) : Int) := of_decide_eq_true (by first | (with_reducible assumption) | assumption)
                    have q17 : (((rd_T65 l0 x9_1).f1) : Int) < 16 := of_decide_eq_true (by first | (with_reducible assumption) | assumption)
                    replace p17 := eq_true p17
                    replace q17 := eq_true q17
                    refine start_ (n := 13) (S := fun w' => w'.cell? ⟨gb178, 0, none⟩ = some (.int .i64 ((rd_T65 l0 x9_1).f0)) ∧ w'.cell? ⟨gb178, 1, none⟩ = some (.int .i64 ((rd_T65 l0 x9_1).f1)) ∧ w'.cell? ⟨gb178, 2, none⟩ = some (.int .i64 ((rd_T65 l0 x9_1).f2)) ∧ w'.cell? ⟨gb176, ((rd_T65 l0 x9_1).f0).toNat * 16 + ((rd_T65 l0 x9_1).f1).toNat, none⟩ = some (.int .i64 (Arr.vrd2 16 x177000_1 ((rd_T65 l0 x9_1).f0) ((rd_T65 l0 x9_1).f1)))) (ds := [12]) #[false, false, false, false, false, false, false, false, false, false, false, false, false] (by kernel_rfl) rfl rfl ⟨(blk_cell BK178.out 0).trans rfl, (blk_cell BK178.out 1).trans rfl, (blk_cell BK178.out 2).trans rfl, (Arr.cellN (off := 0) (l := (Arr.arL .i64 x177000_1)) (BK176.out) rfl (((rd_T65 l0 x9_1).f0).toNat * 16 + ((rd_T65 l0 x9_1).f1).toNat) (((rd_T65 l0 x9_1).f0).toNat * 16 + ((rd_T65 l0 x9_1).f1).toNat) (by omega) (by have a0_ := of_eq_true p11; have b0_ := of_eq_true q11; have a1_ := of_eq_true p14; have b1_ := of_eq_true q14; omega))⟩ (fun hHeld => ?_); refine with_tabW impl_sumsOf.tab5 impl_sumsOf.bits5 (fun HT_ HW_ => ?_)
                    generalize w23.drew = w24 at BK175 BK176 BK178 HB hHeld ⊢
                    refine pure_ (i := 0) (N := some 13) (v := ?_) (a' := ?_) #[true, false, false, false, false, false, false, false, false, false, false, false, false] rfl rfl (any_of HT_.out (by kernel_rfl)) (fun _ _ _ h => h) (Or.inl ⟨by rfl, ?_⟩) ?_ ?_
                    rotate_left
                    · intro w'
                      go_simp
                      with_reducible rfl
                    rotate_left
                    · simp only [Act.put, List.setIfInBounds_toArray, List.set_cons_zero, List.set_cons_succ, i64_w, i32_w]
                      rfl
                    refine pure_ (i := 2) (N := some 15) (v := ?_) (a' := ?_) #[true, false, true, false, false, false, false, false, false, false, false, false, false] rfl rfl (any_of HT_.out (by kernel_rfl)) (fun _ _ _ h => h) (Or.inl ⟨by rfl, ?_⟩) ?_ ?_
                    rotate_left
                    · intro w'
                      go_simp
                      with_reducible rfl
                    rotate_left
                    · simp only [Act.put, List.setIfInBounds_toArray, List.set_cons_zero, List.set_cons_succ, i64_w, i32_w]
                      rfl
                    refine pure_ (i := 7) (N := some 20) (v := ?_) (a' := ?_) #[true, false, true, false, false, false, false, true, false, false, false, false, false] rfl rfl (any_of HT_.out (by kernel_rfl)) (fun _ _ _ h => h) (Or.inl ⟨by rfl, ?_⟩) ?_ ?_
                    rotate_left
                    · intro w'
                      go_simp
                      with_reducible rfl
                    rotate_left
                    · simp only [Act.put, List.setIfInBounds_toArray, List.set_cons_zero, List.set_cons_succ, i64_w, i32_w]
                      rfl
                    refine take_ (i := 1) (N := some 14) (v := ?_) (a' := ?_) #[true, true, true, false, false, false, false, true, false, false, false, false, false] rfl rfl (take_ofW HT_.out HW_.out (by kernel_rfl)) (fun _ _ _ h => h) (Or.inl ⟨by rfl, ?_⟩) hHeld ?_ ?_
                    rotate_left
                    · rintro w' ⟨s0, s1, s2, s3⟩
                      go_simp
                      with_reducible rfl
                    rotate_left
                    · simp only [Act.put, List.setIfInBounds_toArray, List.set_cons_zero, List.set_cons_succ, i64_w, i32_w]
                      rfl
                    refine pure_ (i := 4) (N := some 17) (v := ?_) (a' := ?_) #[true, true, true, false, true, false, false, true, false, false, false, false, false] rfl rfl (any_of HT_.out (by kernel_rfl)) (fun _ _ _ h => h) (Or.inl ⟨by rfl, ?_⟩) ?_ ?_
                    rotate_left
                    · intro w'
                      go_simp
                      with_reducible rfl
                    rotate_left
                    · simp only [Act.put, List.setIfInBounds_toArray, List.set_cons_zero, List.set_cons_succ, i64_w, i32_w]
                      rfl
                    refine pure_ (i := 10) (N := some 23) (v := ?_) (a' := ?_) #[true, true, true, false, true, false, false, true, false, false, true, false, false] rfl rfl (any_of HT_.out (by kernel_rfl)) (fun _ _ _ h => h) (Or.inl ⟨by rfl, ?_⟩) ?_ ?_
                    rotate_left
                    · intro w'
                      go_simp
                      with_reducible rfl
                    rotate_left
                    · simp only [Act.put, List.setIfInBounds_toArray, List.set_cons_zero, List.set_cons_succ, i64_w, i32_w]
                      rfl
                    refine take_ (i := 3) (N := some 16) (v := ?_) (a' := ?_) #[true, true, true, true, true, false, false, true, false, false, true, false, false] rfl rfl (take_ofW HT_.out HW_.out (by kernel_rfl)) (fun _ _ _ h => h) (Or.inl ⟨by rfl, ?_⟩) hHeld ?_ ?_
                    rotate_left
                    · rintro w' ⟨s0, s1, s2, s3⟩
                      go_simp
                      with_reducible rfl
                    rotate_left
                    · simp only [Act.put, List.setIfInBounds_toArray, List.set_cons_zero, List.set_cons_succ, i64_w, i32_w]
                      rfl
                    refine pure_ (i := 5) (N := some 18) (v := ?_) (a' := ?_) #[true, true, true, true, true, true, false, true, false, false, true, false, false] rfl rfl (any_of HT_.out (by kernel_rfl)) (fun _ _ _ h => h) (Or.inl ⟨by rfl, ?_⟩) ?_ ?_
                    rotate_left
                    · intro w'
                      go_simp
                      with_reducible rfl
                    rotate_left
                    · simp only [Act.put, List.setIfInBounds_toArray, List.set_cons_zero, List.set_cons_succ, i64_w, i32_w]
                      rfl
                    refine take_ (i := 6) (N := some 19) (v := ?_) (a' := ?_) #[true, true, true, true, true, true, true, true, false, false, true, false, false] rfl rfl (take_ofW HT_.out HW_.out (by kernel_rfl)) (fun _ _ _ h => h) (Or.inl ⟨by rfl, ?_⟩) hHeld ?_ ?_
                    rotate_left
                    · rintro w' ⟨s0, s1, s2, s3⟩
                      go_simp
                      with_reducible rfl
                    rotate_left
                    · simp only [Act.put, List.setIfInBounds_toArray, List.set_cons_zero, List.set_cons_succ, i64_w, i32_w]
                      rfl
                    refine take_ (i := 8) (N := some 21) (v := ?_) (a' := ?_) #[true, true, true, true, true, true, true, true, true, false, true, false, false] rfl rfl (take_ofW HT_.out HW_.out (by kernel_rfl)) (fun _ _ _ h => h) (Or.inl ⟨by rfl, ?_⟩) hHeld ?_ ?_
                    rotate_left
                    · rintro w' ⟨s0, s1, s2, s3⟩
                      go_simp
                      with_reducible rfl
                    rotate_left
                    · simp only [Act.put, List.setIfInBounds_toArray, List.set_cons_zero, List.set_cons_succ, i64_w, i32_w]
                      rfl
                    refine pure_ (i := 9) (N := some 22) (v := ?_) (a' := ?_) #[true, true, true, true, true, true, true, true, true, true, true, false, false] rfl rfl (any_of HT_.out (by kernel_rfl)) (fun _ _ _ h => h) (Or.inl ⟨by rfl, ?_⟩) ?_ ?_
                    rotate_left
                    · intro w'
                      go_simp
                      with_reducible rfl
                    rotate_left
                    · simp only [Act.put, List.setIfInBounds_toArray, List.set_cons_zero, List.set_cons_succ, i64_w, i32_w]
                      rfl
                    refine pure_ (i := 11) (N := some 24) (v := ?_) (a' := ?_) #[true, true, true, true, true, true, true, true, true, true, true, true, false] rfl rfl (any_of HT_.out (by kernel_rfl)) (fun _ _ _ h => h) (Or.inl ⟨by rfl, ?_⟩) ?_ ?_
                    rotate_left
                    · intro w'
                      go_simp
                      with_reducible rfl
                    rotate_left
                    · simp only [Act.put, List.setIfInBounds_toArray, List.set_cons_zero, List.set_cons_succ, i64_w, i32_w]
                      rfl
                    refine last_ (i := 12) (N := none) #[true, true, true, true, true, true, true, true, true, true, true, true, true] rfl rfl (one_of HT_.out (by kernel_rfl)) (by decide) (fun K hK => ?_)
                    have hx18 : w24.cell? ⟨gb176, ((rd_T65 l0 x9_1).f0).toNat * 16 + ((rd_T65 l0 x9_1).f1).toNat, none⟩ = some (.int .i64 (Arr.vrd2 16 x177000_1 ((rd_T65 l0 x9_1).f0) ((rd_T65 l0 x9_1).f1))) := Arr.cellN (off := 0) (l := (Arr.arL .i64 x177000_1)) (show w24.heap[gb176]? = some (.cells (⟨Arr.arL .i64 x177000_1⟩ : Array Value) 70 (0, 0)) from by (with_reducible repeat (first | refine blk_drewN ?_ _ | refine blk_drew ?_ | refine blk_alloc ?_ _)); exact BK176.out) rfl (((rd_T65 l0 x9_1).f0).toNat * 16 + ((rd_T65 l0 x9_1).f1).toNat) (((rd_T65 l0 x9_1).f0).toNat * 16 + ((rd_T65 l0 x9_1).f1).toNat) (by omega) (by have a0_ := of_eq_true p16; have b0_ := of_eq_true q16; have a1_ := of_eq_true p17; have b1_ := of_eq_true q17; omega)
                    have hf18 := blk_frozen (show w24.heap[gb176]? = some (.cells (⟨Arr.arL .i64 x177000_1⟩ : Array Value) 70 (0, 0)) from by (with_reducible repeat (first | refine blk_drewN ?_ _ | refine blk_drew ?_ | refine blk_alloc ?_ _)); exact BK176.out) (((rd_T65 l0 x9_1).f0).toNat * 16 + ((rd_T65 l0 x9_1).f1).toNat)
                    refine skip_ (w1 := w24.setCell ⟨gb176, ((rd_T65 l0 x9_1).f0).toNat * 16 + ((rd_T65 l0 x9_1).f1).toNat, none⟩ (.int .i64 (wrap64 ((Arr.vrd2 16 x177000_1 ((rd_T65 l0 x9_1).f0) ((rd_T65 l0 x9_1).f1)) + ((rd_T65 l0 x9_1).f2))))) (by rfl) rfl ?_ ?_
                    · first | (go_simp; done) | (go_simp; rfl)
                    refine hK.out _ _ ?_
                    clear hK K
                    refine done_ (done_of HT_.out (by kernel_rfl)) ?_
                    obtain ⟨w25, hw_, hbx, hg, hbe⟩ := Arr.stored_at (g := gb176) (off := 0) (m := ((rd_T65 l0 x9_1).f0).toNat * 16 + ((rd_T65 l0 x9_1).f1).toNat) (n := ((rd_T65 l0 x9_1).f0).toNat * 16 + ((rd_T65 l0 x9_1).f1).toNat) (k := .i64) (y := (wrap64 ((Arr.vrd2 16 x177000_1 ((rd_T65 l0 x9_1).f0) ((rd_T65 l0 x9_1).f1)) + ((rd_T65 l0 x9_1).f2)))) (x := x177000_1) (t := 70) (pre := []) (show w24.heap[gb176]? = some (.cells (⟨Arr.arL .i64 x177000_1⟩ : Array Value) 70 (0, 0)) from by (with_reducible repeat (first | refine blk_drewN ?_ _ | refine blk_drew ?_ | refine blk_alloc ?_ _)); exact BK176.out) rfl (by omega)
                    rw [hw_]
                    clear hw_
                    replace hbx : w25.heap[gb176]? = some (.cells (⟨Arr.arL .i64 y179⟩ : Array Value) 70 (0, 0)) := (by rw [Ny179.out]; exact hbx)
                    have n0_ := Aside0.mk (blk_grown (g := gb175) (o := .cells (⟨Arr.arL .i64 (Vector.replicate 256 0 : Vector Int 256)⟩ : Array Value) 70 (0, 0)) (by (with_reducible repeat (first | refine blk_drewN ?_ _ | refine blk_drew ?_ | refine blk_alloc ?_ _)); exact BK175.out) hg (fun e_ => NB175_176.out (Option.some.inj e_)))
                    have n1_ := Aside0.mk (hbx)
                    have n2_ := Aside0.mk (blk_grown (g := gb178) (o := .cells #[.int .i64 ((rd_T65 l0 x9_1).f0), .int .i64 ((rd_T65 l0 x9_1).f1), .int .i64 ((rd_T65 l0 x9_1).f2)] 65 (0, 0)) (by (with_reducible repeat (first | refine blk_drewN ?_ _ | refine blk_drew ?_ | refine blk_alloc ?_ _)); exact BK178.out) hg (fun e_ => NB178_176.out (Option.some.inj e_)))
                    have n3_ := Aside0.mk (hbe _ _ (by repeat (first | (with_reducible first | exact HB.out | apply below_alloc | apply pw_below_drewN | apply below_drew1 | refine below_set ?_ GE175.out | refine below_set ?_ GE176.out | refine below_set ?_ GE178.out) | exact HB.out)) GE176.out)
                    clear BK175
                    clear BK176
                    clear BK178
                    clear HB
                    have BK175 := n0_
                    have BK176 := n1_
                    have BK178 := n2_
                    have HB := n3_
                    clear n0_ n1_ n2_ n3_
                    (try clear hbx hg hbe)
                    try go_wp2
                    go_roundg k1
                    case measure => have := HK1.out; omega
                    case rel => exact ⟨(wrap64 (x9_1 + 1)), (y179), (by first | rfl | (simp; done) | (simp [*]; done)), H', ⟨by have := HK1.out; omega⟩, ⟨by (with_reducible repeat (first | refine blk_drewN ?_ _ | refine blk_drew ?_ | refine blk_alloc ?_ _)); exact BK175.out⟩, ⟨by (with_reducible repeat (first | refine blk_drewN ?_ _ | refine blk_drew ?_ | refine blk_alloc ?_ _)); exact BK176.out⟩, ⟨by repeat (first | (with_reducible first | exact HB.out | apply below_alloc | apply pw_below_drewN | apply below_drew1 | refine below_set ?_ GE175.out | refine below_set ?_ GE176.out | refine below_set ?_ GE178.out) | exact HB.out)⟩⟩
                  · rw [if_neg c13] at H
                    exact absurd H (by simp)
                · rw [if_neg c12] at H
                  exact absurd H (by simp)
              · rw [if_neg c10] at H
                exact absurd H (by simp)
            · rw [if_neg c9] at H
              exact absurd H (by simp)
          · rw [if_neg c8] at H
            exact absurd H (by simp)
        · rw [if_neg c7] at H
          exact absurd H (by simp)
      · rw [if_neg c6] at H
        have c6b0 : decide (x9_1 < (l0.length : Int)) = false := decide_eq_false c6
        clear c6
        obtain rfl := Option.some.inj H
        go_wp2_with (first | ((with_reducible refine Arr.gate_load (t := 70) (p := 3) rfl ?_); (try (refine gate_guard (by rfl) ?_; dsimp only)); refine Arr.loadA ?hg (T := 70) (p := 3) ?ho (g := gb176) (off := 0) ?hx (t := 70) (l := (Arr.arL .i64 x177000_1)) (m := (Arr.arL .i64 x177000_1)) (fr := (0, 0)) (show wr.heap[gb176]? = some (.cells (⟨Arr.arL .i64 x177000_1⟩ : Array Value) 70 (0, 0)) from by (with_reducible repeat (first | refine blk_drewN ?_ _ | refine blk_drew ?_ | refine blk_alloc ?_ _)); exact BK176.out) rfl Try.underlying70 rfl (n := 256) (by kernel_rfl) (by simp [Arr.arL_length]) ?_; (case hg => rfl); (case ho => rfl); (case hx => first | (go_simp; done) | rfl | (go_simp; rfl))) | ((with_reducible refine gate_store (t := 70) (p := 2) rfl ?_); refine Arr.storeA ?hg (T := 70) (p := 2) (v := ?vo_w28) ?ho ?hn (g := gb175) (off := 0) ?hx (m := (Arr.arL .i64 x177000_1)) ?hy (t := 70) (pre := []) (old := (Arr.arL .i64 (Vector.replicate 256 0 : Vector Int 256))) (show wr.heap[gb175]? = some (.cells (⟨Arr.arL .i64 (Vector.replicate 256 0 : Vector Int 256)⟩ : Array Value) 70 (0, 0)) from by (with_reducible repeat (first | refine blk_drewN ?_ _ | refine blk_drew ?_ | refine blk_alloc ?_ _)); exact BK175.out) rfl (by simp [Arr.arL_length]) (n := 256) (by kernel_rfl) (by simp [Arr.arL_length]) (Arr.ones_0 ) ?_; (case ho => rfl); (case hg => rfl); (case hn => rfl); (case hx => first | (go_simp; done) | rfl | (go_simp; rfl)); (case hy => first | (go_simp; done) | rfl | (go_simp; rfl)); intro w28 hbx hg hbe; replace hbx : w28.heap[gb175]? = some (.cells (⟨Arr.arL .i64 x177000_1⟩ : Array Value) 70 (0, 0)) := hbx; have n0_ := Aside0.mk (hbx); have n1_ := Aside0.mk (blk_grown (g := gb176) (o := .cells (⟨Arr.arL .i64 x177000_1⟩ : Array Value) 70 (0, 0)) (by (with_reducible repeat (first | refine blk_drewN ?_ _ | refine blk_drew ?_ | refine blk_alloc ?_ _)); exact BK176.out) hg (fun e_ => NB176_175.out (Option.some.inj e_))); have n2_ := Aside0.mk (hbe _ _ (by repeat (first | (with_reducible first | exact HB.out | apply below_alloc | apply pw_below_drewN | apply below_drew1 | refine below_set ?_ GE175.out | refine below_set ?_ GE176.out) | exact HB.out)) GE175.out); clear BK175; clear BK176; clear HB; have BK175 := n0_; have BK176 := n1_; have HB := n2_; clear n0_ n1_ n2_; (try clear hbx hg hbe)))
        refine bodyPost_ret (results_cell_row rfl _ _ gb175 70 (⟨Arr.arL .i64 x177000_1⟩ : Array Value) (0, 0) _ rfl (by (with_reducible repeat (first | refine blk_drewN ?_ _ | refine blk_drew ?_ | refine blk_alloc ?_ _)); exact BK175.out) Try.underlying70 rfl (by rw [show (Try.prog.info? 70).map (·.size) = some 256 from by kernel_rfl]; simp [Arr.arL_length])) rfl ?_
        exact ⟨by first | rfl | (simp [errW_none, errW_some] <;> rfl) | (simp [*, errW_none, errW_some] <;> rfl), by repeat (first | (with_reducible first | exact HB.out | apply below_alloc | apply pw_below_drewN | apply below_drew1 | refine below_set ?_ GE175.out | refine below_set ?_ GE176.out) | exact HB.out)⟩

/-! ### impl_sums_debts: function 62 -/
mutual
def impl_sums_debts.l0 : Nat → List (S65) → Int → Vector Int 256 → Option ((List (S65)) × Int)
  | 0, _, _, _ => none
  | k + 1, x4, x11, x501 => if x11 < 16 then (if 0 ≤ x11 then (impl_sums_debts.l1 k x4 x11 x11 0 x501 (Arr.vrow 16 x501 x11)) else (none)) else (if (x4.length : Int) > 60 then (some (([] : List (S65)), 3)) else (some (x4, 0)))
def impl_sums_debts.l1 : Nat → List (S65) → Int → Int → Int → Vector Int 256 → Vector Int 16 → Option ((List (S65)) × Int)
  | 0, _, _, _, _, _, _ => none
  | k + 1, x4, x5, x11, x16, x501, x503 => if x16 < 16 then (if 0 ≤ x16 then (if (Arr.vrd x503 x16) > 100000000 then (some (([] : List (S65)), 3)) else (if (Arr.vrd x503 x16) > 0 then (if x4.length < 5864062014805 then (impl_sums_debts.l1 k (x4 ++ [(⟨x5, x16, Arr.vrd x503 x16⟩ : S65)]) x5 x11 (wrap64 (x16 + 1)) x501 x503) else (none)) else (impl_sums_debts.l1 k x4 x5 x11 (wrap64 (x16 + 1)) x501 x503))) else (none)) else (impl_sums_debts.l0 k x4 (wrap64 (x11 + 1)) x501)
end
def impl_sums_debts.f (k : Nat) (a0_0 : Vector Int 256) : Option ((List (S65)) × Int) := impl_sums_debts.l0 k (([] : List (S65))) 0 a0_0
theorem impl_sums_debts.mono_l : ∀ k, (∀ y0 y1 y2, LeO (impl_sums_debts.l0 k y0 y1 y2) (impl_sums_debts.l0 (k + 1) y0 y1 y2)) ∧ (∀ y0 y1 y2 y3 y4 y5, LeO (impl_sums_debts.l1 k y0 y1 y2 y3 y4 y5) (impl_sums_debts.l1 (k + 1) y0 y1 y2 y3 y4 y5))
  | 0 => ⟨fun _ _ _ r h => by simp [impl_sums_debts.l0] at h, fun _ _ _ _ _ _ r h => by simp [impl_sums_debts.l1] at h⟩
  | k + 1 => by
    obtain ⟨ih0, ih1⟩ := impl_sums_debts.mono_l k
    refine ⟨?_, ?_⟩
    · intro y0 y1 y2
      unfold impl_sums_debts.l0
      repeat' first
      | (with_reducible exact ih0 _ _ _)
      | (with_reducible exact ih1 _ _ _ _ _ _)
      | (with_reducible exact LeO.refl _)
      | (with_reducible exact LeO.none _)
      | (with_reducible refine LeO.ite ?_ ?_)
      | (with_reducible refine LeO.bind ?_ (fun _ => ?_))
      | exact ih0 _ _ _
      | exact ih1 _ _ _ _ _ _
      | exact LeO.none _
      | refine LeO.ite ?_ ?_
      | refine LeO.bind ?_ (fun _ => ?_)
    · intro y0 y1 y2 y3 y4 y5
      unfold impl_sums_debts.l1
      repeat' first
      | (with_reducible exact ih0 _ _ _)
      | (with_reducible exact ih1 _ _ _ _ _ _)
      | (with_reducible exact LeO.refl _)
      | (with_reducible exact LeO.none _)
      | (with_reducible refine LeO.ite ?_ ?_)
      | (with_reducible refine LeO.bind ?_ (fun _ => ?_))
      | exact ih0 _ _ _
      | exact ih1 _ _ _ _ _ _
      | exact LeO.none _
      | refine LeO.ite ?_ ?_
      | refine LeO.bind ?_ (fun _ => ?_)
theorem impl_sums_debts.mono : ∀ a0 k, LeO (impl_sums_debts.f k a0) (impl_sums_debts.f (k + 1) a0) := by
  intro a0 k
  obtain ⟨ih0, ih1⟩ := impl_sums_debts.mono_l k
  unfold impl_sums_debts.f
  repeat' first
      | (with_reducible exact ih0 _ _ _)
      | (with_reducible exact ih1 _ _ _ _ _ _)
      | (with_reducible exact LeO.refl _)
      | (with_reducible exact LeO.none _)
      | (with_reducible refine LeO.ite ?_ ?_)
      | (with_reducible refine LeO.bind ?_ (fun _ => ?_))
      | exact ih0 _ _ _
      | exact ih1 _ _ _ _ _ _
      | exact LeO.none _
      | refine LeO.ite ?_ ?_
      | refine LeO.bind ?_ (fun _ => ?_)
set_option maxHeartbeats 8000000 in
set_option maxRecDepth 100000 in
theorem impl_sums_debts.calls (k : Nat) (a0_0 : Vector Int 256) (r1 : List (S65)) (r2 : Int) (w : World) (h : impl_sums_debts.f k a0_0 = some (r1, r2)) :
    Calls Try.prog 62 #[.agg (⟨Arr.arL .i64 a0_0⟩ : Array Value)] w fun e w' => ∃ v0_ : Value, e = .returned (.tuple #[v0_, .int .i64 r2]) ∧ Kd.R k65 65 w' w.heap.size (fun _ => True) v0_ r1 ∧ Below w.heap.size w w' := by
  have hu70 := Try.underlying70
  have hu61 := Try.underlying61
  have hu65 := Try.underlying65
  have HB := Aside0.mk (Below.refl w.heap.size w)
  have H : (impl_sums_debts.l0 k (([] : List (S65))) 0 a0_0) = some (r1, r2) := h
  clear h
  obtain ⟨y181, hy181⟩ : ∃ y_ : List (S65), y_ = (([] : List (S65))) := ⟨_, rfl⟩
  replace H : (impl_sums_debts.l0 k y181 0 a0_0) = some (r1, r2) := by first | (rw [hy181]; with_reducible exact H) | (have H2_ := (Option.bind_some _ _).symm.trans H; rw [hy181]; with_reducible exact H2_) | (have H2_ := (Option.bind_some _ _).symm.trans H; with_reducible exact H2_) | with_reducible exact H | (rw [hy181]; exact H) | exact H
  have Ny181 := Aside0.mk hy181
  clear hy181
  have H' := Aside0.mk H
  clear H
  go_enter Try.func62, Try.ntmps62
  go_wp2_with (first | ((with_reducible refine gate_dst (N := 1) rfl ?_); refine box_event ?hg (N := 1) ?hd (cs := (⟨Arr.arL .i64 a0_0⟩ : Array Value)) (t := 70) ?hr ?_; (case hd => rfl); (case hg => rfl); (case hr => first | (go_simp; done) | (go_simp; rfl)); intro gb180 hg w3 hbox hb; have n0_ := Aside0.mk (below_step (by repeat (first | (with_reducible first | exact HB.out | apply below_alloc | apply pw_below_drewN | apply below_drew1) | exact HB.out)) hb); have n1_ := Aside0.mk (hbox); have n2_ := Aside0.mk ((by rw [hg]; exact (below_size (by repeat (first | (with_reducible first | exact HB.out | apply below_alloc | apply pw_below_drewN | apply below_drew1) | exact HB.out))) : w.heap.size ≤ gb180)); have n3_ := Aside0.mk ((by rw [hg]; exact (below_size (by repeat (first | (with_reducible first | exact HB.out | apply below_alloc | apply pw_below_drewN | apply below_drew1) | exact HB.out))) : w.heap.size ≤ gb180)); clear HB; have HB := n0_; have BK180 := n1_; have GW180 := n2_; have GE180 := n3_; clear n0_ n1_ n2_ n3_; clear hb hbox hg) | ((with_reducible refine gate_dst (N := 9) rfl ?_); refine Kd.R_lit k65 _ 65 ?hg (N := 9) ?hd (xs := ([] : List (S65))) (inner := []) (ok := fun _ => True) (okp := fun _ => True) ?hr ?hp (fun _ hk => hk) trivial (Below.refl _ _) (Nat.le_refl _) (by simp) ?_; (case hd => rfl); (case hg => rfl); (case hr => first | (go_simp; done) | (go_simp; rfl)); (case hp => exact (Reps.none _ _)); intro v182 w4 ho5 hb hg_ hnew_; clear hg_ hnew_; (first | rw [← Ny181.out] at ho5 | (simp only [Int.reduceToNat] at ho5; rw [← Ny181.out] at ho5)); have n0_ := Aside0.mk (Kd.R_lower ho5 (below_size (by repeat (first | (with_reducible first | exact HB.out | apply below_alloc | apply pw_below_drewN | apply below_drew1 | refine below_set ?_ GE180.out) | exact HB.out)))); have n1_ := Aside0.mk (blk_below (g := gb180) (o := .cells (⟨Arr.arL .i64 a0_0⟩ : Array Value) 70 (0, 0)) (by (with_reducible repeat (first | refine blk_drewN ?_ _ | refine blk_drew ?_ | refine blk_alloc ?_ _)); exact BK180.out) hb); have n2_ := Aside0.mk (below_step (by repeat (first | (with_reducible first | exact HB.out | apply below_alloc | apply pw_below_drewN | apply below_drew1 | refine below_set ?_ GE180.out) | exact HB.out)) hb); clear BK180; clear HB; have HO183 := n0_; have BK180 := n1_; have HB := n2_; clear n0_ n1_ n2_; clear hb ho5) | ((with_reducible refine Arr.gate_load (t := 70) (p := 1) rfl ?_); (try (refine gate_guard (by rfl) ?_; dsimp only)); refine Arr.loadA ?hg (T := 70) (p := 1) ?ho (g := gb180) (off := 0) ?hx (t := 70) (l := (Arr.arL .i64 a0_0)) (m := (Arr.arL .i64 a0_0)) (fr := (0, 0)) (show w4.heap[gb180]? = some (.cells (⟨Arr.arL .i64 a0_0⟩ : Array Value) 70 (0, 0)) from by (with_reducible repeat (first | refine blk_drewN ?_ _ | refine blk_drew ?_ | refine blk_alloc ?_ _)); exact BK180.out) rfl Try.underlying70 rfl (n := 256) (by kernel_rfl) (by simp [Arr.arL_length]) ?_; (case hg => rfl); (case ho => rfl); (case hx => first | (go_simp; done) | rfl | (go_simp; rfl))))
  go_loopg [4, 11] k (fun kq v4 v11 w' => ∃ (x4_1 : List (S65)) (x11_1 : Int), v11 = .int .i64 x11_1 ∧ Aside0 (impl_sums_debts.l0 kq x4_1 x11_1 a0_0 = some (r1, r2)) ∧ Aside0 (kq ≤ k) ∧ Aside0 (Kd.R k65 65 w' w.heap.size (fun _ => True) v4 x4_1) ∧ Aside0 (w'.heap[gb180]? = some (.cells (⟨Arr.arL .i64 a0_0⟩ : Array Value) 70 (0, 0))) ∧ Aside0 (Below w.heap.size w w'))
  case atStart => exact ⟨(y181), (0), (by first | rfl | (simp; done) | (simp [*]; done)), H', ⟨Nat.le_refl _⟩, ⟨by (with_reducible repeat (first | apply Kd.R_alloc | apply Kd.R_drewN | apply Kd.R_drew)); exact HO183.out⟩, ⟨by (with_reducible repeat (first | refine blk_drewN ?_ _ | refine blk_drew ?_ | refine blk_alloc ?_ _)); exact BK180.out⟩, ⟨by repeat (first | (with_reducible first | exact HB.out | apply below_alloc | apply pw_below_drewN | apply below_drew1 | refine below_set ?_ GE180.out) | exact HB.out)⟩⟩
  case round =>
    clear H'
    try clear p2
    obtain ⟨x4_1, x11_1, rfl, HA, HK1, HO_4, BK180, HB⟩ := hrel
    cases gk with
    | zero => exact absurd HA.out (by simp [impl_sums_debts.l0])
    | succ k1 =>
      have H := HA.out
      clear HA
      simp only [impl_sums_debts.l0] at H
      by_cases c6 : x11_1 < 16
      · rw [if_pos c6] at H
        have c6b0 : decide (x11_1 < 16) = true := decide_eq_true c6
        clear c6
        by_cases c7 : 0 ≤ x11_1
        · rw [if_pos c7] at H
          have c7b0 : decide (0 ≤ x11_1) = true := decide_eq_true c7
          clear c7
          have H' := Aside0.mk H
          clear H
          have hx8 := fun W_ => Arr.index_row (m := 16) (k := .i64) (P := Try.prog) (w := W_) Try.underlying70 Try.underlying61 (by kernel_rfl) (by kernel_rfl) a0_0 x11_1 .i64 (of_decide_eq_true (by first | (with_reducible assumption) | assumption)) (of_decide_eq_true (by first | (with_reducible assumption) | assumption))
          have p8 : 0 ≤ (x11_1 : Int) := of_decide_eq_true (by first | (with_reducible assumption) | assumption)
          have q8 : (x11_1 : Int) < 16 := of_decide_eq_true (by first | (with_reducible assumption) | assumption)
          replace p8 := eq_true p8
          replace q8 := eq_true q8
          go_wp2_with (first | ((with_reducible refine gate_dst (N := 6) rfl ?_); refine box_event ?hg (N := 6) ?hd (cs := (⟨Arr.arL .i64 (Vector.replicate 16 0 : Vector Int 16)⟩ : Array Value)) (t := 61) ?hr ?_; (case hd => rfl); (case hg => rfl); (case hr => first | (go_simp; done) | (go_simp; rfl)); intro gb184 hg w11 hbox hb; have n0_ := Aside0.mk (Kd.R_below (by (with_reducible repeat (first | apply Kd.R_alloc | apply Kd.R_drewN | apply Kd.R_drew)); exact HO_4.out) hb); have n1_ := Aside0.mk (blk_below (g := gb180) (o := .cells (⟨Arr.arL .i64 a0_0⟩ : Array Value) 70 (0, 0)) (by (with_reducible repeat (first | refine blk_drewN ?_ _ | refine blk_drew ?_ | refine blk_alloc ?_ _)); exact BK180.out) hb); have n2_ := Aside0.mk (below_step (by repeat (first | (with_reducible first | exact HB.out | apply below_alloc | apply pw_below_drewN | apply below_drew1 | refine below_set ?_ GE180.out) | exact HB.out)) hb); have n3_ := Aside0.mk (hbox); have n4_ := Aside0.mk ((by rw [hg]; exact (below_size (by repeat (first | (with_reducible first | exact HB.out | apply below_alloc | apply pw_below_drewN | apply below_drew1 | refine below_set ?_ GE180.out) | exact HB.out))) : w.heap.size ≤ gb184)); have n5_ := Aside0.mk ((by rw [hg]; exact (below_size (by repeat (first | (with_reducible first | exact HB.out | apply below_alloc | apply pw_below_drewN | apply below_drew1 | refine below_set ?_ GE180.out) | exact HB.out))) : w.heap.size ≤ gb184)); have n6_ := Aside0.mk ((by rw [hg]; exact Nat.ne_of_lt (blk_lt (g := gb180) (o := .cells (⟨Arr.arL .i64 a0_0⟩ : Array Value) 70 (0, 0)) (by (with_reducible repeat (first | refine blk_drewN ?_ _ | refine blk_drew ?_ | refine blk_alloc ?_ _)); exact BK180.out)) : gb180 ≠ gb184)); have n7_ := Aside0.mk ((by rw [hg]; exact Nat.ne_of_gt (blk_lt (g := gb180) (o := .cells (⟨Arr.arL .i64 a0_0⟩ : Array Value) 70 (0, 0)) (by (with_reducible repeat (first | refine blk_drewN ?_ _ | refine blk_drew ?_ | refine blk_alloc ?_ _)); exact BK180.out)) : gb184 ≠ gb180)); clear HO_4; clear BK180; clear HB; have HO_4 := n0_; have BK180 := n1_; have HB := n2_; have BK184 := n3_; have GW184 := n4_; have GE184 := n5_; have NB180_184 := n6_; have NB184_180 := n7_; clear n0_ n1_ n2_ n3_ n4_ n5_ n6_ n7_; clear hb hbox hg) | ((with_reducible refine gate_store (t := 61) (p := 6) rfl ?_); refine Arr.storeA ?hg (T := 61) (p := 6) (v := ?vo_w12) ?ho ?hn (g := gb184) (off := 0) ?hx (m := (Arr.arL .i64 (Arr.vrow 16 a0_0 x11_1))) ?hy (t := 61) (pre := []) (old := (Arr.arL .i64 (Vector.replicate 16 0 : Vector Int 16))) (show w11.heap[gb184]? = some (.cells (⟨Arr.arL .i64 (Vector.replicate 16 0 : Vector Int 16)⟩ : Array Value) 61 (0, 0)) from by (with_reducible repeat (first | refine blk_drewN ?_ _ | refine blk_drew ?_ | refine blk_alloc ?_ _)); exact BK184.out) rfl (by simp [Arr.arL_length]) (n := 16) (by kernel_rfl) (by simp [Arr.arL_length]) (Arr.ones_0 ) ?_; (case ho => rfl); (case hg => rfl); (case hn => rfl); (case hx => first | (go_simp; done) | rfl | (go_simp; rfl)); (case hy => first | (go_simp; done) | rfl | (go_simp; rfl)); intro w12 hbx hg hbe; replace hbx : w12.heap[gb184]? = some (.cells (⟨Arr.arL .i64 (Arr.vrow 16 a0_0 x11_1)⟩ : Array Value) 61 (0, 0)) := hbx; have n0_ := Aside0.mk (Kd.R_grown1 (by (with_reducible repeat (first | apply Kd.R_alloc | apply Kd.R_drewN | apply Kd.R_drew)); exact HO_4.out) rfl hg (Kd.R_ne HO_4.out BK184.out (by decide))); have n1_ := Aside0.mk (blk_grown (g := gb180) (o := .cells (⟨Arr.arL .i64 a0_0⟩ : Array Value) 70 (0, 0)) (by (with_reducible repeat (first | refine blk_drewN ?_ _ | refine blk_drew ?_ | refine blk_alloc ?_ _)); exact BK180.out) hg (fun e_ => NB180_184.out (Option.some.inj e_))); have n2_ := Aside0.mk (hbx); have n3_ := Aside0.mk (hbe _ _ (by repeat (first | (with_reducible first | exact HB.out | apply below_alloc | apply pw_below_drewN | apply below_drew1 | refine below_set ?_ GE180.out | refine below_set ?_ GE184.out) | exact HB.out)) GE184.out); clear HO_4; clear BK180; clear BK184; clear HB; have HO_4 := n0_; have BK180 := n1_; have BK184 := n2_; have HB := n3_; clear n0_ n1_ n2_ n3_; (try clear hbx hg hbe)) | ((with_reducible refine Arr.gate_load (t := 61) (p := 6) rfl ?_); (try (refine gate_guard (by rfl) ?_; dsimp only)); refine Arr.loadA ?hg (T := 61) (p := 6) ?ho (g := gb184) (off := 0) ?hx (t := 61) (l := (Arr.arL .i64 (Arr.vrow 16 a0_0 x11_1))) (m := (Arr.arL .i64 (Arr.vrow 16 a0_0 x11_1))) (fr := (0, 0)) (show w12.heap[gb184]? = some (.cells (⟨Arr.arL .i64 (Arr.vrow 16 a0_0 x11_1)⟩ : Array Value) 61 (0, 0)) from by (with_reducible repeat (first | refine blk_drewN ?_ _ | refine blk_drew ?_ | refine blk_alloc ?_ _)); exact BK184.out) rfl Try.underlying61 rfl (n := 16) (by kernel_rfl) (by simp [Arr.arL_length]) ?_; (case hg => rfl); (case ho => rfl); (case hx => first | (go_simp; done) | rfl | (go_simp; rfl))))
          go_loopg [4, 16] k1 (fun kq v4 v16 w' => ∃ (x4_2 : List (S65)) (x16_2 : Int), v16 = .int .i64 x16_2 ∧ Aside0 (impl_sums_debts.l1 kq x4_2 x11_1 x11_1 x16_2 a0_0 (Arr.vrow 16 a0_0 x11_1) = some (r1, r2)) ∧ Aside0 (kq ≤ k1) ∧ Aside0 (Kd.R k65 65 w' w.heap.size (fun _ => True) v4 x4_2) ∧ Aside0 (w'.heap[gb180]? = some (.cells (⟨Arr.arL .i64 a0_0⟩ : Array Value) 70 (0, 0))) ∧ Aside0 (w'.heap[gb184]? = some (.cells (⟨Arr.arL .i64 (Arr.vrow 16 a0_0 x11_1)⟩ : Array Value) 61 (0, 0))) ∧ Aside0 (Below w.heap.size w w'))
          case atStart => exact ⟨(x4_1), (0), (by first | rfl | (simp; done) | (simp [*]; done)), H', ⟨Nat.le_refl _⟩, ⟨by (with_reducible repeat (first | apply Kd.R_alloc | apply Kd.R_drewN | apply Kd.R_drew)); exact HO_4.out⟩, ⟨by (with_reducible repeat (first | refine blk_drewN ?_ _ | refine blk_drew ?_ | refine blk_alloc ?_ _)); exact BK180.out⟩, ⟨by (with_reducible repeat (first | refine blk_drewN ?_ _ | refine blk_drew ?_ | refine blk_alloc ?_ _)); exact BK184.out⟩, ⟨by repeat (first | (with_reducible first | exact HB.out | apply below_alloc | apply pw_below_drewN | apply below_drew1 | refine below_set ?_ GE180.out | refine below_set ?_ GE184.out) | exact HB.out)⟩⟩
          case round =>
            clear H'
            try clear p2
            try clear c6
            try clear c6b0
            try clear c7
            try clear c7b0
            try clear p8
            try clear q8
            try clear hx8
            try clear p2
            try clear p8
            try clear q8
            obtain ⟨x4_2, x16_2, rfl, HA, HK2, HO_4, BK180, BK184, HB⟩ := hrel
            cases gk with
            | zero => exact absurd HA.out (by simp [impl_sums_debts.l1])
            | succ k2 =>
              have H := HA.out
              clear HA
              simp only [impl_sums_debts.l1] at H
              by_cases c13 : x16_2 < 16
              · rw [if_pos c13] at H
                have c13b0 : decide (x16_2 < 16) = true := decide_eq_true c13
                clear c13
                by_cases c14 : 0 ≤ x16_2
                · rw [if_pos c14] at H
                  have c14b0 : decide (0 ≤ x16_2) = true := decide_eq_true c14
                  clear c14
                  by_cases c16 : (Arr.vrd (Arr.vrow 16 a0_0 x11_1) x16_2) > 100000000
                  · rw [if_pos c16] at H
                    have c16b0 : decide (100000000 < (Arr.vrd (Arr.vrow 16 a0_0 x11_1) x16_2)) = true := decide_eq_true c16
                    clear c16
                    simp only [Option.some.injEq, Prod.mk.injEq] at H
                    obtain ⟨rfl, rfl⟩ := H
                    have hx15 := fun W_ => Arr.index_arr (P := Try.prog) (w := W_) Try.underlying61 Try.underlying2 (by kernel_rfl) (by kernel_rfl) (Arr.vrow 16 a0_0 x11_1) x16_2 .i64 (of_decide_eq_true (by first | (with_reducible assumption) | assumption)) (of_decide_eq_true (by first | (with_reducible assumption) | assumption))
                    have p15 : 0 ≤ (x16_2 : Int) := of_decide_eq_true (by first | (with_reducible assumption) | assumption)
                    have q15 : (x16_2 : Int) < 16 := of_decide_eq_true (by first | (with_reducible assumption) | assumption)
                    replace p15 := eq_true p15
                    replace q15 := eq_true q15
                    go_wp2
                    go_ret2
                    exact ⟨_, by first | rfl | (simp [errW_none, errW_some] <;> rfl) | (simp [*, errW_none, errW_some] <;> rfl), by first | exact Kd.R_nil _ _ _ _ _ | exact Kd.N_nil _ _ _ _ _ | exact Kd.V_nil _ _ _ _ _ | exact Kd.Q_nil _ _ _ _ _ | exact Kd.S_nil _ _ _ _ _, by repeat (first | (with_reducible first | exact HB.out | apply below_alloc | apply pw_below_drewN | apply below_drew1 | refine below_set ?_ GE180.out | refine below_set ?_ GE184.out) | exact HB.out)⟩
                  · rw [if_neg c16] at H
                    have c16b0 : decide (100000000 < (Arr.vrd (Arr.vrow 16 a0_0 x11_1) x16_2)) = false := decide_eq_false c16
                    clear c16
                    by_cases c17 : (Arr.vrd (Arr.vrow 16 a0_0 x11_1) x16_2) > 0
                    · rw [if_pos c17] at H
                      have c17b0 : decide (0 < (Arr.vrd (Arr.vrow 16 a0_0 x11_1) x16_2)) = true := decide_eq_true c17
                      clear c17
                      by_cases c18 : x4_2.length < 5864062014805
                      · rw [if_pos c18] at H
                        have LMc18 := Aside0.mk c18
                        clear c18
                        obtain ⟨y185, hy185⟩ : ∃ y_ : List (S65), y_ = (x4_2 ++ [(⟨x11_1, x16_2, Arr.vrd (Arr.vrow 16 a0_0 x11_1) x16_2⟩ : S65)]) := ⟨_, rfl⟩
                        replace H : (impl_sums_debts.l1 k2 y185 x11_1 x11_1 (wrap64 (x16_2 + 1)) a0_0 (Arr.vrow 16 a0_0 x11_1)) = some (r1, r2) := by first | (rw [hy185]; with_reducible exact H) | (have H2_ := (Option.bind_some _ _).symm.trans H; rw [hy185]; with_reducible exact H2_) | (have H2_ := (Option.bind_some _ _).symm.trans H; with_reducible exact H2_) | with_reducible exact H | (rw [hy185]; exact H) | exact H
                        have Ny185 := Aside0.mk hy185
                        clear hy185
                        have H' := Aside0.mk H
                        clear H
                        have hx15 := fun W_ => Arr.index_arr (P := Try.prog) (w := W_) Try.underlying61 Try.underlying2 (by kernel_rfl) (by kernel_rfl) (Arr.vrow 16 a0_0 x11_1) x16_2 .i64 (of_decide_eq_true (by first | (with_reducible assumption) | assumption)) (of_decide_eq_true (by first | (with_reducible assumption) | assumption))
                        have p15 : 0 ≤ (x16_2 : Int) := of_decide_eq_true (by first | (with_reducible assumption) | assumption)
                        have q15 : (x16_2 : Int) < 16 := of_decide_eq_true (by first | (with_reducible assumption) | assumption)
                        replace p15 := eq_true p15
                        replace q15 := eq_true q15
                        go_wp2_with (first | ((with_reducible refine gate_builtin (b := .append) (xs := #[.tmp 24, .tmp 29]) rfl ?_); at_builtin; refine Kd.R_append k65 (w0 := w) w.heap.size rfl (.tmp 24) (.tmp 29) 26 65 (.agg #[(.int .i64 0), (.int .i64 0), (.int .i64 0)]) 24 rfl Try.underlying26 info65 rfl (by decide) (by omega) u4 x4_2 (⟨x11_1, x16_2, Arr.vrd (Arr.vrow 16 a0_0 x11_1) x16_2⟩ : S65) [.int .i64 x11_1, .int .i64 x16_2, .int .i64 (Arr.vrd (Arr.vrow 16 a0_0 x11_1) x16_2)] (fun _ => True) (fun _ => False) rfl rfl ?aP (fun _ hk => hk.elim) ?aF ?aO ?aB ?aS ?aL ?_; (case aP => exact k65_mkM _ _ _ (⟨x11_1, x16_2, Arr.vrd (Arr.vrow 16 a0_0 x11_1) x16_2⟩ : S65)); (case aB => exact (by repeat (first | (with_reducible first | exact HB.out | apply below_alloc | apply pw_below_drewN | apply below_drew1 | refine below_set ?_ GE180.out | refine below_set ?_ GE184.out) | exact HB.out))); (case aF => exact (fun _ _ => trivial)); (case aO => exact (by (with_reducible repeat (first | apply Kd.R_alloc | apply Kd.R_drewN | apply Kd.R_drew)); exact HO_4.out)); (case aS => exact (below_size (by repeat (first | (with_reducible first | exact HB.out | apply below_alloc | apply pw_below_drewN | apply below_drew1 | refine below_set ?_ GE180.out | refine below_set ?_ GE184.out) | exact HB.out)))); (case aL => have := LMc18.out; omega); intro v186 w19 ho hb hg hat; rw [← Ny185.out] at ho; have n0_ := Aside0.mk (blk_grown (g := gb180) (o := .cells (⟨Arr.arL .i64 a0_0⟩ : Array Value) 70 (0, 0)) (by (with_reducible repeat (first | refine blk_drewN ?_ _ | refine blk_drew ?_ | refine blk_alloc ?_ _)); exact BK180.out) hg (Kd.R_ne HO_4.out BK180.out (by decide))); have n1_ := Aside0.mk (blk_grown (g := gb184) (o := .cells (⟨Arr.arL .i64 (Arr.vrow 16 a0_0 x11_1)⟩ : Array Value) 61 (0, 0)) (by (with_reducible repeat (first | refine blk_drewN ?_ _ | refine blk_drew ?_ | refine blk_alloc ?_ _)); exact BK184.out) hg (Kd.R_ne HO_4.out BK184.out (by decide))); have n2_ := Aside0.mk (hb); have n3_ := Aside0.mk (ho); clear BK180; clear BK184; clear HB; clear HO_4; have BK180 := n0_; have BK184 := n1_; have HB := n2_; have HO187 := n3_; clear n0_ n1_ n2_ n3_; clear ho hb hg hat))
                        go_roundg k2
                        case measure => have := HK1.out; have := HK2.out; omega
                        case rel => exact ⟨(y185), (wrap64 (x16_2 + 1)), (by first | rfl | (simp; done) | (simp [*]; done)), H', ⟨by have := HK1.out; have := HK2.out; omega⟩, ⟨by (with_reducible repeat (first | apply Kd.R_alloc | apply Kd.R_drewN | apply Kd.R_drew)); exact HO187.out⟩, ⟨by (with_reducible repeat (first | refine blk_drewN ?_ _ | refine blk_drew ?_ | refine blk_alloc ?_ _)); exact BK180.out⟩, ⟨by (with_reducible repeat (first | refine blk_drewN ?_ _ | refine blk_drew ?_ | refine blk_alloc ?_ _)); exact BK184.out⟩, ⟨by repeat (first | (with_reducible first | exact HB.out | apply below_alloc | apply pw_below_drewN | apply below_drew1 | refine below_set ?_ GE180.out | refine below_set ?_ GE184.out) | exact HB.out)⟩⟩
                      · rw [if_neg c18] at H
                        exact absurd H (by simp)
                    · rw [if_neg c17] at H
                      have c17b0 : decide (0 < (Arr.vrd (Arr.vrow 16 a0_0 x11_1) x16_2)) = false := decide_eq_false c17
                      clear c17
                      have H' := Aside0.mk H
                      clear H
                      have hx15 := fun W_ => Arr.index_arr (P := Try.prog) (w := W_) Try.underlying61 Try.underlying2 (by kernel_rfl) (by kernel_rfl) (Arr.vrow 16 a0_0 x11_1) x16_2 .i64 (of_decide_eq_true (by first | (with_reducible assumption) | assumption)) (of_decide_eq_true (by first | (with_reducible assumption) | assumption))
                      have p15 : 0 ≤ (x16_2 : Int) := of_decide_eq_true (by first | (with_reducible assumption) | assumption)
                      have q15 : (x16_2 : Int) < 16 := of_decide_eq_true (by first | (with_reducible assumption) | assumption)
                      replace p15 := eq_true p15
                      replace q15 := eq_true q15
                      go_wp2
                      go_roundg k2
                      case measure => have := HK1.out; have := HK2.out; omega
                      case rel => exact ⟨(x4_2), (wrap64 (x16_2 + 1)), (by first | rfl | (simp; done) | (simp [*]; done)), H', ⟨by have := HK1.out; have := HK2.out; omega⟩, ⟨by (with_reducible repeat (first | apply Kd.R_alloc | apply Kd.R_drewN | apply Kd.R_drew)); exact HO_4.out⟩, ⟨by (with_reducible repeat (first | refine blk_drewN ?_ _ | refine blk_drew ?_ | refine blk_alloc ?_ _)); exact BK180.out⟩, ⟨by (with_reducible repeat (first | refine blk_drewN ?_ _ | refine blk_drew ?_ | refine blk_alloc ?_ _)); exact BK184.out⟩, ⟨by repeat (first | (with_reducible first | exact HB.out | apply below_alloc | apply pw_below_drewN | apply below_drew1 | refine below_set ?_ GE180.out | refine below_set ?_ GE184.out) | exact HB.out)⟩⟩
                · rw [if_neg c14] at H
                  exact absurd H (by simp)
              · rw [if_neg c13] at H
                have c13b0 : decide (x16_2 < 16) = false := decide_eq_false c13
                clear c13
                have H' := Aside0.mk H
                clear H
                go_wp2
                go_roundg k2
                case measure => have := HK1.out; have := HK2.out; omega
                case rel => exact ⟨(x4_2), (wrap64 (x11_1 + 1)), (by first | rfl | (simp; done) | (simp [*]; done)), H', ⟨by have := HK1.out; have := HK2.out; omega⟩, ⟨by (with_reducible repeat (first | apply Kd.R_alloc | apply Kd.R_drewN | apply Kd.R_drew)); exact HO_4.out⟩, ⟨by (with_reducible repeat (first | refine blk_drewN ?_ _ | refine blk_drew ?_ | refine blk_alloc ?_ _)); exact BK180.out⟩, ⟨by repeat (first | (with_reducible first | exact HB.out | apply below_alloc | apply pw_below_drewN | apply below_drew1 | refine below_set ?_ GE180.out | refine below_set ?_ GE184.out) | exact HB.out)⟩⟩
        · rw [if_neg c7] at H
          exact absurd H (by simp)
      · rw [if_neg c6] at H
        have c6b0 : decide (x11_1 < 16) = false := decide_eq_false c6
        clear c6
        by_cases c20 : (x4_1.length : Int) > 60
        · rw [if_pos c20] at H
          have c20b0 : decide (60 < (x4_1.length : Int)) = true := decide_eq_true c20
          have c20b1 : decide (60 < x4_1.length) = true := decide_eq_true (by omega)
          clear c20
          simp only [Option.some.injEq, Prod.mk.injEq] at H
          obtain ⟨rfl, rfl⟩ := H
          obtain ⟨Ao21, co21, eo21⟩ := Kd.R_slice HO_4.out
          subst eo21
          go_wp2
          go_ret2
          exact ⟨_, by first | rfl | (simp [errW_none, errW_some] <;> rfl) | (simp [*, errW_none, errW_some] <;> rfl), by first | exact Kd.R_nil _ _ _ _ _ | exact Kd.N_nil _ _ _ _ _ | exact Kd.V_nil _ _ _ _ _ | exact Kd.Q_nil _ _ _ _ _ | exact Kd.S_nil _ _ _ _ _, by repeat (first | (with_reducible first | exact HB.out | apply below_alloc | apply pw_below_drewN | apply below_drew1 | refine below_set ?_ GE180.out) | exact HB.out)⟩
        · rw [if_neg c20] at H
          have c20b0 : decide (60 < (x4_1.length : Int)) = false := decide_eq_false c20
          have c20b1 : decide (60 < x4_1.length) = false := decide_eq_false (by omega)
          clear c20
          simp only [Option.some.injEq, Prod.mk.injEq] at H
          obtain ⟨rfl, rfl⟩ := H
          obtain ⟨Ao22, co22, eo22⟩ := Kd.R_slice HO_4.out
          subst eo22
          go_wp2
          go_ret2
          exact ⟨_, by first | rfl | (simp [errW_none, errW_some] <;> rfl) | (simp [*, errW_none, errW_some] <;> rfl), by (with_reducible repeat (first | apply Kd.R_alloc | apply Kd.R_drewN | apply Kd.R_drew)); exact HO_4.out, by repeat (first | (with_reducible first | exact HB.out | apply below_alloc | apply pw_below_drewN | apply below_drew1 | refine below_set ?_ GE180.out) | exact HB.out)⟩

/-! ### impl_PayDebt: function 37 -/
def impl_PayDebt.f (k : Nat) (a0 : Int) (l1 : List (S65)) (a2 : Int) (a3 : Int) (a4 : Int) : Option ((List (S65)) × Int) := (impl_debtsCode.f k a0 l1 (([a2, a3] : List Int))).bind fun t191 => (if t191 = 0 then ((impl_sumsOf.f k l1).bind fun t192 => (if a4 < 1 then (some (([] : List (S65)), 4)) else (if 0 ≤ a2 then (if a2 < 16 then (if 0 ≤ a3 then (if a3 < 16 then (if a4 > (Arr.vrd2 16 t192 a2 a3) then (some (([] : List (S65)), 4)) else ((impl_sums_debts.f k (Arr.vst2 16 t192 a2 a3 (wrap64 ((Arr.vrd2 16 t192 a2 a3) - a4)))).bind fun bt195 => (some (bt195.1, bt195.2)))) else (none)) else (none)) else (none)) else (none)))) else (some (([] : List (S65)), t191)))
theorem impl_PayDebt.mono : ∀ a0 a1 a2 a3 a4 k, LeO (impl_PayDebt.f k a0 a1 a2 a3 a4) (impl_PayDebt.f (k + 1) a0 a1 a2 a3 a4) := by
  intro a0 a1 a2 a3 a4 k
  unfold impl_PayDebt.f
  repeat' first
      | (with_reducible exact impl_debtsCode.mono _ _ _ _)
      | (with_reducible exact impl_sumsOf.mono _ _)
      | (with_reducible exact impl_sums_debts.mono _ _)
      | (with_reducible exact LeO.refl _)
      | (with_reducible exact LeO.none _)
      | (with_reducible refine LeO.ite ?_ ?_)
      | (with_reducible refine LeO.bind ?_ (fun _ => ?_))
      | exact impl_debtsCode.mono _ _ _ _
      | exact impl_sumsOf.mono _ _
      | exact impl_sums_debts.mono _ _
      | exact LeO.none _
      | refine LeO.ite ?_ ?_
      | refine LeO.bind ?_ (fun _ => ?_)
def impl_PayDebt.T7 : Bool × List (List Nat × List Nat) := (true, [([], []), ([], []), ([0], [0]), ([2, 1], [1, 2]), ([3], [3]), ([], []), ([4, 5], [4, 5]), ([0], [0]), ([7, 1, 0, 1, 2, 3, 4, 5, 6], [1, 7]), ([8, 6, 0, 1, 2, 3, 4, 5, 6], [6, 8])])
def impl_PayDebt.B7 : List Nat := [0, 0, 1, 7, 15, 0, 63, 1, 255, 511]
theorem impl_PayDebt.tab7 : rtab .any (opsOf Try.f37 7) = impl_PayDebt.T7 := by kernel_rfl
theorem impl_PayDebt.bits7 : waitsOk impl_PayDebt.T7.2 impl_PayDebt.B7 = true := by kernel_rfl
set_option maxHeartbeats 8000000 in
set_option maxRecDepth 100000 in
theorem impl_PayDebt.calls (k : Nat) (a0 : Int) (A1 : Option Addr) (c1 : Nat) (l1 : List (S65)) (a2 : Int) (a3 : Int) (a4 : Int) (r1 : List (S65)) (r2 : Int) (w : World) (hr1 : Kd.C k65 w A1 l1.length l1) (hc1 : l1.length ≤ c1) (h : impl_PayDebt.f k a0 l1 a2 a3 a4 = some (r1, r2)) :
    Calls Try.prog 37 #[.int .i64 a0, .slice A1 l1.length c1, .int .i64 a2, .int .i64 a3, .int .i64 a4] w fun e w' => ∃ v0_ : Value, e = .returned (.tuple #[v0_, .int .i64 r2]) ∧ Kd.R k65 65 w' w.heap.size (fun _ => True) v0_ r1 ∧ Below w.heap.size w w' := by
  have hu70 := Try.underlying70
  have HR1 := Aside0.mk hr1
  have HC1 := Aside0.mk hc1
  clear hr1 hc1
  have HB := Aside0.mk (Below.refl w.heap.size w)
  have H : ((impl_debtsCode.f k a0 l1 (([a2, a3] : List Int))).bind fun t191 => (if t191 = 0 then ((impl_sumsOf.f k l1).bind fun t192 => (if a4 < 1 then (some (([] : List (S65)), 4)) else (if 0 ≤ a2 then (if a2 < 16 then (if 0 ≤ a3 then (if a3 < 16 then (if a4 > (Arr.vrd2 16 t192 a2 a3) then (some (([] : List (S65)), 4)) else ((impl_sums_debts.f k (Arr.vst2 16 t192 a2 a3 (wrap64 ((Arr.vrd2 16 t192 a2 a3) - a4)))).bind fun bt195 => (some (bt195.1, bt195.2)))) else (none)) else (none)) else (none)) else (none)))) else (some (([] : List (S65)), t191)))) = some (r1, r2) := h
  clear h
  obtain ⟨y188, hy188⟩ : ∃ y_ : List Int, y_ = (([a2, a3] : List Int)) := ⟨_, rfl⟩
  replace H : ((impl_debtsCode.f k a0 l1 y188).bind fun t191 => (if t191 = 0 then ((impl_sumsOf.f k l1).bind fun t192 => (if a4 < 1 then (some (([] : List (S65)), 4)) else (if 0 ≤ a2 then (if a2 < 16 then (if 0 ≤ a3 then (if a3 < 16 then (if a4 > (Arr.vrd2 16 t192 a2 a3) then (some (([] : List (S65)), 4)) else ((impl_sums_debts.f k (Arr.vst2 16 t192 a2 a3 (wrap64 ((Arr.vrd2 16 t192 a2 a3) - a4)))).bind fun bt195 => (some (bt195.1, bt195.2)))) else (none)) else (none)) else (none)) else (none)))) else (some (([] : List (S65)), t191)))) = some (r1, r2) := by first | (rw [hy188]; with_reducible exact H) | (have H2_ := (Option.bind_some _ _).symm.trans H; rw [hy188]; with_reducible exact H2_) | (have H2_ := (Option.bind_some _ _).symm.trans H; with_reducible exact H2_) | with_reducible exact H | (rw [hy188]; exact H) | exact H
  have Ny188 := Aside0.mk hy188
  clear hy188
  replace H := Option.bind_eq_some_iff.mp H
  obtain ⟨t191, A60, H⟩ := H
  replace H : (if t191 = 0 then ((impl_sumsOf.f k l1).bind fun t192 => (if a4 < 1 then (some (([] : List (S65)), 4)) else (if 0 ≤ a2 then (if a2 < 16 then (if 0 ≤ a3 then (if a3 < 16 then (if a4 > (Arr.vrd2 16 t192 a2 a3) then (some (([] : List (S65)), 4)) else ((impl_sums_debts.f k (Arr.vst2 16 t192 a2 a3 (wrap64 ((Arr.vrd2 16 t192 a2 a3) - a4)))).bind fun bt195 => (some (bt195.1, bt195.2)))) else (none)) else (none)) else (none)) else (none)))) else (some (([] : List (S65)), t191))) = some (r1, r2) := H
  have A6 := Aside0.mk A60
  clear A60
  by_cases c7 : t191 = 0
  · rw [if_pos c7] at H
    have c7b0 : (t191 == 0) = true := beq_iff_eq.mpr c7
    have c7b1 : (t191 != 0) = false := bne_eq_false_iff_eq.mpr c7
    clear c7
    replace H := Option.bind_eq_some_iff.mp H
    obtain ⟨t192, A80, H⟩ := H
    replace H : (if a4 < 1 then (some (([] : List (S65)), 4)) else (if 0 ≤ a2 then (if a2 < 16 then (if 0 ≤ a3 then (if a3 < 16 then (if a4 > (Arr.vrd2 16 t192 a2 a3) then (some (([] : List (S65)), 4)) else ((impl_sums_debts.f k (Arr.vst2 16 t192 a2 a3 (wrap64 ((Arr.vrd2 16 t192 a2 a3) - a4)))).bind fun bt195 => (some (bt195.1, bt195.2)))) else (none)) else (none)) else (none)) else (none))) = some (r1, r2) := H
    have A8 := Aside0.mk A80
    clear A80
    by_cases c10 : a4 < 1
    · rw [if_pos c10] at H
      have c10b0 : decide (a4 < 1) = true := decide_eq_true c10
      clear c10
      simp only [Option.some.injEq, Prod.mk.injEq] at H
      obtain ⟨rfl, rfl⟩ := H
      go_enter Try.func37, Try.ntmps37
      go_wp2_with (first | ((with_reducible refine gate_dst (N := 18) rfl ?_); refine Kd.R_lit (Kd.int .i64) _ 2 ?hg (N := 18) ?hd (xs := ([a2, a3] : List Int)) (inner := [.int .i64 a2, .int .i64 a3]) (ok := fun _ => True) (okp := fun _ => True) ?hr ?hp (fun _ hk => hk) trivial (Below.refl _ _) (Nat.le_refl _) (by simp) ?_; (case hd => rfl); (case hg => rfl); (case hr => first | (go_simp; done) | (go_simp; rfl)); (case hp => exact (Reps.one (show Kd.M (Kd.int .i64) _ _ _ a2 [.int .i64 a2] from rfl) (Reps.one (show Kd.M (Kd.int .i64) _ _ _ a3 [.int .i64 a3] from rfl) (Reps.none _ _)))); intro v189 w11 ho12 hb hg_ hnew_; clear hg_ hnew_; (first | rw [← Ny188.out] at ho12 | (simp only [Int.reduceToNat] at ho12; rw [← Ny188.out] at ho12)); have n0_ := Aside0.mk (Kd.R_lower ho12 (below_size (by repeat (first | (with_reducible first | exact HB.out | apply below_alloc | apply pw_below_drewN | apply below_drew1) | exact HB.out)))); have n1_ := Aside0.mk (below_step (by repeat (first | (with_reducible first | exact HB.out | apply below_alloc | apply pw_below_drewN | apply below_drew1) | exact HB.out)) hb); clear HB; have HO190 := n0_; have HB := n1_; clear n0_ n1_; clear hb ho12; obtain ⟨Ao13, co13, eo13⟩ := Kd.R_slice HO190.out; subst eo13) | ((with_reducible refine gate_callee (f := 56) rfl ?_); refine goesL_ (some 19) rfl rfl Try.func56 (by kernel_rfl) rfl #[.int .i64 a0, .slice A1 l1.length c1, .slice Ao13 y188.length co13] rfl (by (try simp only [List.map_toArray, List.map_cons, List.map_nil]); first | done | (go_simp; done) | rfl | (simp only [List.length_drop, List.length_take]; rfl)) ?_; (with_reducible refine (impl_debtsCode.calls k a0 _ _ l1 _ _ y188 t191 _ ?side1 ?side2 ?side3 ?side4 A6.out).mono ?_); (case side1 => repeat (first | exact (Kd.C_below HR1.out HB.out) | (with_reducible refine Kd.C_alloc ?_ _) | (with_reducible refine Kd.C_drewN ?_ _) | (with_reducible refine Kd.C_drew ?_))); (case side2 => exact HC1.out); (case side3 => repeat (first | exact (Kd.R_reads' HO190.out).2.2 | (with_reducible refine Kd.C_alloc ?_ _) | (with_reducible refine Kd.C_drewN ?_ _) | (with_reducible refine Kd.C_drew ?_))); (case side4 => exact (Kd.R_reads' HO190.out).2.1); rintro e w14 ⟨rfl, hb⟩; refine ⟨_, rfl, ?_⟩; have n0_ := Aside0.mk (Kd.R_below (by (with_reducible repeat (first | apply Kd.R_alloc | apply Kd.R_drewN | apply Kd.R_drew)); exact HO190.out) hb); have n1_ := Aside0.mk (below_step (by repeat (first | (with_reducible first | exact HB.out | apply below_alloc | apply pw_below_drewN | apply below_drew1) | exact HB.out)) hb); clear HO190; clear HB; have HO190 := n0_; have HB := n1_; clear n0_ n1_; (try clear hb); (try clear hb2); (try clear hk); (try clear hi)) | ((with_reducible refine gate_callee (f := 57) rfl ?_); refine goesL_ (some 24) rfl rfl Try.func57 (by kernel_rfl) rfl #[.slice A1 l1.length c1] rfl (by (try simp only [List.map_toArray, List.map_cons, List.map_nil]); first | done | (go_simp; done) | rfl | (simp only [List.length_drop, List.length_take]; rfl)) ?_; (with_reducible refine (impl_sumsOf.calls k _ _ l1 t192 _ ?side1 ?side2 A8.out).mono ?_); (case side1 => repeat (first | exact (Kd.C_below HR1.out HB.out) | (with_reducible refine Kd.C_alloc ?_ _) | (with_reducible refine Kd.C_drewN ?_ _) | (with_reducible refine Kd.C_drew ?_))); (case side2 => exact HC1.out); rintro e w15 ⟨rfl, hb⟩; refine ⟨_, rfl, ?_⟩; have n0_ := Aside0.mk (Kd.R_below (by (with_reducible repeat (first | apply Kd.R_alloc | apply Kd.R_drewN | apply Kd.R_drew)); exact HO190.out) hb); have n1_ := Aside0.mk (below_step (by repeat (first | (with_reducible first | exact HB.out | apply below_alloc | apply pw_below_drewN | apply below_drew1) | exact HB.out)) hb); clear HO190; clear HB; have HO190 := n0_; have HB := n1_; clear n0_ n1_; (try clear hb); (try clear hb2); (try clear hk); (try clear hi)) | ((with_reducible refine gate_dst (N := 13) rfl ?_); refine box_event ?hg (N := 13) ?hd (cs := (⟨Arr.arL .i64 (Vector.replicate 256 0 : Vector Int 256)⟩ : Array Value)) (t := 70) ?hr ?_; (case hd => rfl); (case hg => rfl); (case hr => first | (go_simp; done) | (go_simp; rfl)); intro gb193 hg w16 hbox hb; have n0_ := Aside0.mk (Kd.R_below (by (with_reducible repeat (first | apply Kd.R_alloc | apply Kd.R_drewN | apply Kd.R_drew)); exact HO190.out) hb); have n1_ := Aside0.mk (below_step (by repeat (first | (with_reducible first | exact HB.out | apply below_alloc | apply pw_below_drewN | apply below_drew1) | exact HB.out)) hb); have n2_ := Aside0.mk (hbox); have n3_ := Aside0.mk ((by rw [hg]; exact (below_size (by repeat (first | (with_reducible first | exact HB.out | apply below_alloc | apply pw_below_drewN | apply below_drew1) | exact HB.out))) : w.heap.size ≤ gb193)); have n4_ := Aside0.mk ((by rw [hg]; exact (below_size (by repeat (first | (with_reducible first | exact HB.out | apply below_alloc | apply pw_below_drewN | apply below_drew1) | exact HB.out))) : w.heap.size ≤ gb193)); clear HO190; clear HB; have HO190 := n0_; have HB := n1_; have BK193 := n2_; have GW193 := n3_; have GE193 := n4_; clear n0_ n1_ n2_ n3_ n4_; clear hb hbox hg) | ((with_reducible refine gate_store (t := 70) (p := 13) rfl ?_); refine Arr.storeA ?hg (T := 70) (p := 13) (v := ?vo_w17) ?ho ?hn (g := gb193) (off := 0) ?hx (m := (Arr.arL .i64 t192)) ?hy (t := 70) (pre := []) (old := (Arr.arL .i64 (Vector.replicate 256 0 : Vector Int 256))) (show w16.heap[gb193]? = some (.cells (⟨Arr.arL .i64 (Vector.replicate 256 0 : Vector Int 256)⟩ : Array Value) 70 (0, 0)) from by (with_reducible repeat (first | refine blk_drewN ?_ _ | refine blk_drew ?_ | refine blk_alloc ?_ _)); exact BK193.out) rfl (by simp [Arr.arL_length]) (n := 256) (by kernel_rfl) (by simp [Arr.arL_length]) (Arr.ones_0 ) ?_; (case ho => rfl); (case hg => rfl); (case hn => rfl); (case hx => first | (go_simp; done) | rfl | (go_simp; rfl)); (case hy => first | (go_simp; done) | rfl | (go_simp; rfl)); intro w17 hbx hg hbe; replace hbx : w17.heap[gb193]? = some (.cells (⟨Arr.arL .i64 t192⟩ : Array Value) 70 (0, 0)) := hbx; have n0_ := Aside0.mk (Kd.R_grown1 (by (with_reducible repeat (first | apply Kd.R_alloc | apply Kd.R_drewN | apply Kd.R_drew)); exact HO190.out) rfl hg (Kd.R_ne HO190.out BK193.out (by decide))); have n1_ := Aside0.mk (hbx); have n2_ := Aside0.mk (hbe _ _ (by repeat (first | (with_reducible first | exact HB.out | apply below_alloc | apply pw_below_drewN | apply below_drew1 | refine below_set ?_ GE193.out) | exact HB.out)) GE193.out); clear HO190; clear BK193; clear HB; have HO190 := n0_; have BK193 := n1_; have HB := n2_; clear n0_ n1_ n2_; (try clear hbx hg hbe)))
      go_ret2
      exact ⟨_, by first | rfl | (simp [errW_none, errW_some] <;> rfl) | (simp [*, errW_none, errW_some] <;> rfl), by first | exact Kd.R_nil _ _ _ _ _ | exact Kd.N_nil _ _ _ _ _ | exact Kd.V_nil _ _ _ _ _ | exact Kd.Q_nil _ _ _ _ _ | exact Kd.S_nil _ _ _ _ _, by repeat (first | (with_reducible first | exact HB.out | apply below_alloc | apply pw_below_drewN | apply below_drew1 | refine below_set ?_ GE193.out) | exact HB.out)⟩
    · rw [if_neg c10] at H
      have c10b0 : decide (a4 < 1) = false := decide_eq_false c10
      clear c10
      by_cases c18 : 0 ≤ a2
      · rw [if_pos c18] at H
        have c18b0 : decide (0 ≤ a2) = true := decide_eq_true c18
        clear c18
        by_cases c19 : a2 < 16
        · rw [if_pos c19] at H
          have c19b0 : decide (a2 < 16) = true := decide_eq_true c19
          clear c19
          by_cases c21 : 0 ≤ a3
          · rw [if_pos c21] at H
            have c21b0 : decide (0 ≤ a3) = true := decide_eq_true c21
            clear c21
            by_cases c22 : a3 < 16
            · rw [if_pos c22] at H
              have c22b0 : decide (a3 < 16) = true := decide_eq_true c22
              clear c22
              by_cases c25 : a4 > (Arr.vrd2 16 t192 a2 a3)
              · rw [if_pos c25] at H
                have c25b0 : decide ((Arr.vrd2 16 t192 a2 a3) < a4) = true := decide_eq_true c25
                clear c25
                simp only [Option.some.injEq, Prod.mk.injEq] at H
                obtain ⟨rfl, rfl⟩ := H
                go_enter Try.func37, Try.ntmps37
                go_wp2_with (first | ((with_reducible refine gate_dst (N := 18) rfl ?_); refine Kd.R_lit (Kd.int .i64) _ 2 ?hg (N := 18) ?hd (xs := ([a2, a3] : List Int)) (inner := [.int .i64 a2, .int .i64 a3]) (ok := fun _ => True) (okp := fun _ => True) ?hr ?hp (fun _ hk => hk) trivial (Below.refl _ _) (Nat.le_refl _) (by simp) ?_; (case hd => rfl); (case hg => rfl); (case hr => first | (go_simp; done) | (go_simp; rfl)); (case hp => exact (Reps.one (show Kd.M (Kd.int .i64) _ _ _ a2 [.int .i64 a2] from rfl) (Reps.one (show Kd.M (Kd.int .i64) _ _ _ a3 [.int .i64 a3] from rfl) (Reps.none _ _)))); intro v189 w26 ho27 hb hg_ hnew_; clear hg_ hnew_; (first | rw [← Ny188.out] at ho27 | (simp only [Int.reduceToNat] at ho27; rw [← Ny188.out] at ho27)); have n0_ := Aside0.mk (Kd.R_lower ho27 (below_size (by repeat (first | (with_reducible first | exact HB.out | apply below_alloc | apply pw_below_drewN | apply below_drew1) | exact HB.out)))); have n1_ := Aside0.mk (below_step (by repeat (first | (with_reducible first | exact HB.out | apply below_alloc | apply pw_below_drewN | apply below_drew1) | exact HB.out)) hb); clear HB; have HO190 := n0_; have HB := n1_; clear n0_ n1_; clear hb ho27; obtain ⟨Ao28, co28, eo28⟩ := Kd.R_slice HO190.out; subst eo28) | ((with_reducible refine gate_callee (f := 56) rfl ?_); refine goesL_ (some 19) rfl rfl Try.func56 (by kernel_rfl) rfl #[.int .i64 a0, .slice A1 l1.length c1, .slice Ao28 y188.length co28] rfl (by (try simp only [List.map_toArray, List.map_cons, List.map_nil]); first | done | (go_simp; done) | rfl | (simp only [List.length_drop, List.length_take]; rfl)) ?_; (with_reducible refine (impl_debtsCode.calls k a0 _ _ l1 _ _ y188 t191 _ ?side1 ?side2 ?side3 ?side4 A6.out).mono ?_); (case side1 => repeat (first | exact (Kd.C_below HR1.out HB.out) | (with_reducible refine Kd.C_alloc ?_ _) | (with_reducible refine Kd.C_drewN ?_ _) | (with_reducible refine Kd.C_drew ?_))); (case side2 => exact HC1.out); (case side3 => repeat (first | exact (Kd.R_reads' HO190.out).2.2 | (with_reducible refine Kd.C_alloc ?_ _) | (with_reducible refine Kd.C_drewN ?_ _) | (with_reducible refine Kd.C_drew ?_))); (case side4 => exact (Kd.R_reads' HO190.out).2.1); rintro e w29 ⟨rfl, hb⟩; refine ⟨_, rfl, ?_⟩; have n0_ := Aside0.mk (Kd.R_below (by (with_reducible repeat (first | apply Kd.R_alloc | apply Kd.R_drewN | apply Kd.R_drew)); exact HO190.out) hb); have n1_ := Aside0.mk (below_step (by repeat (first | (with_reducible first | exact HB.out | apply below_alloc | apply pw_below_drewN | apply below_drew1) | exact HB.out)) hb); clear HO190; clear HB; have HO190 := n0_; have HB := n1_; clear n0_ n1_; (try clear hb); (try clear hb2); (try clear hk); (try clear hi)) | ((with_reducible refine gate_callee (f := 57) rfl ?_); refine goesL_ (some 24) rfl rfl Try.func57 (by kernel_rfl) rfl #[.slice A1 l1.length c1] rfl (by (try simp only [List.map_toArray, List.map_cons, List.map_nil]); first | done | (go_simp; done) | rfl | (simp only [List.length_drop, List.length_take]; rfl)) ?_; (with_reducible refine (impl_sumsOf.calls k _ _ l1 t192 _ ?side1 ?side2 A8.out).mono ?_); (case side1 => repeat (first | exact (Kd.C_below HR1.out HB.out) | (with_reducible refine Kd.C_alloc ?_ _) | (with_reducible refine Kd.C_drewN ?_ _) | (with_reducible refine Kd.C_drew ?_))); (case side2 => exact HC1.out); rintro e w30 ⟨rfl, hb⟩; refine ⟨_, rfl, ?_⟩; have n0_ := Aside0.mk (Kd.R_below (by (with_reducible repeat (first | apply Kd.R_alloc | apply Kd.R_drewN | apply Kd.R_drew)); exact HO190.out) hb); have n1_ := Aside0.mk (below_step (by repeat (first | (with_reducible first | exact HB.out | apply below_alloc | apply pw_below_drewN | apply below_drew1) | exact HB.out)) hb); clear HO190; clear HB; have HO190 := n0_; have HB := n1_; clear n0_ n1_; (try clear hb); (try clear hb2); (try clear hk); (try clear hi)) | ((with_reducible refine gate_dst (N := 13) rfl ?_); refine box_event ?hg (N := 13) ?hd (cs := (⟨Arr.arL .i64 (Vector.replicate 256 0 : Vector Int 256)⟩ : Array Value)) (t := 70) ?hr ?_; (case hd => rfl); (case hg => rfl); (case hr => first | (go_simp; done) | (go_simp; rfl)); intro gb193 hg w31 hbox hb; have n0_ := Aside0.mk (Kd.R_below (by (with_reducible repeat (first | apply Kd.R_alloc | apply Kd.R_drewN | apply Kd.R_drew)); exact HO190.out) hb); have n1_ := Aside0.mk (below_step (by repeat (first | (with_reducible first | exact HB.out | apply below_alloc | apply pw_below_drewN | apply below_drew1) | exact HB.out)) hb); have n2_ := Aside0.mk (hbox); have n3_ := Aside0.mk ((by rw [hg]; exact (below_size (by repeat (first | (with_reducible first | exact HB.out | apply below_alloc | apply pw_below_drewN | apply below_drew1) | exact HB.out))) : w.heap.size ≤ gb193)); have n4_ := Aside0.mk ((by rw [hg]; exact (below_size (by repeat (first | (with_reducible first | exact HB.out | apply below_alloc | apply pw_below_drewN | apply below_drew1) | exact HB.out))) : w.heap.size ≤ gb193)); clear HO190; clear HB; have HO190 := n0_; have HB := n1_; have BK193 := n2_; have GW193 := n3_; have GE193 := n4_; clear n0_ n1_ n2_ n3_ n4_; clear hb hbox hg) | ((with_reducible refine gate_store (t := 70) (p := 13) rfl ?_); refine Arr.storeA ?hg (T := 70) (p := 13) (v := ?vo_w32) ?ho ?hn (g := gb193) (off := 0) ?hx (m := (Arr.arL .i64 t192)) ?hy (t := 70) (pre := []) (old := (Arr.arL .i64 (Vector.replicate 256 0 : Vector Int 256))) (show w31.heap[gb193]? = some (.cells (⟨Arr.arL .i64 (Vector.replicate 256 0 : Vector Int 256)⟩ : Array Value) 70 (0, 0)) from by (with_reducible repeat (first | refine blk_drewN ?_ _ | refine blk_drew ?_ | refine blk_alloc ?_ _)); exact BK193.out) rfl (by simp [Arr.arL_length]) (n := 256) (by kernel_rfl) (by simp [Arr.arL_length]) (Arr.ones_0 ) ?_; (case ho => rfl); (case hg => rfl); (case hn => rfl); (case hx => first | (go_simp; done) | rfl | (go_simp; rfl)); (case hy => first | (go_simp; done) | rfl | (go_simp; rfl)); intro w32 hbx hg hbe; replace hbx : w32.heap[gb193]? = some (.cells (⟨Arr.arL .i64 t192⟩ : Array Value) 70 (0, 0)) := hbx; have n0_ := Aside0.mk (Kd.R_grown1 (by (with_reducible repeat (first | apply Kd.R_alloc | apply Kd.R_drewN | apply Kd.R_drew)); exact HO190.out) rfl hg (Kd.R_ne HO190.out BK193.out (by decide))); have n1_ := Aside0.mk (hbx); have n2_ := Aside0.mk (hbe _ _ (by repeat (first | (with_reducible first | exact HB.out | apply below_alloc | apply pw_below_drewN | apply below_drew1 | refine below_set ?_ GE193.out) | exact HB.out)) GE193.out); clear HO190; clear BK193; clear HB; have HO190 := n0_; have BK193 := n1_; have HB := n2_; clear n0_ n1_ n2_; (try clear hbx hg hbe); have p20 : 0 ≤ (a2 : Int) := of_decide_eq_true (by first | (with_reducible assumption) | assumption); have q20 : (a2 : Int) < 16 := of_decide_eq_true (by first | (with_reducible assumption) | assumption); replace p20 := eq_true p20; replace q20 := eq_true q20; have p23 : 0 ≤ (a3 : Int) := of_decide_eq_true (by first | (with_reducible assumption) | assumption); have q23 : (a3 : Int) < 16 := of_decide_eq_true (by first | (with_reducible assumption) | assumption); replace p23 := eq_true p23; replace q23 := eq_true q23; have hx24 : w32.cell? ⟨gb193, a2.toNat * 16 + a3.toNat, none⟩ = some (.int .i64 (Arr.vrd2 16 t192 a2 a3)) := Arr.cellN (off := 0) (l := (Arr.arL .i64 t192)) (show w32.heap[gb193]? = some (.cells (⟨Arr.arL .i64 t192⟩ : Array Value) 70 (0, 0)) from by (with_reducible repeat (first | refine blk_drewN ?_ _ | refine blk_drew ?_ | refine blk_alloc ?_ _)); exact BK193.out) rfl (a2.toNat * 16 + a3.toNat) (a2.toNat * 16 + a3.toNat) (by omega) (by have a0_ := of_eq_true p20; have b0_ := of_eq_true q20; have a1_ := of_eq_true p23; have b1_ := of_eq_true q23; omega); have hf24 := blk_frozen (show w32.heap[gb193]? = some (.cells (⟨Arr.arL .i64 t192⟩ : Array Value) 70 (0, 0)) from by (with_reducible repeat (first | refine blk_drewN ?_ _ | refine blk_drew ?_ | refine blk_alloc ?_ _)); exact BK193.out) (a2.toNat * 16 + a3.toNat)))
                go_ret2
                exact ⟨_, by first | rfl | (simp [errW_none, errW_some] <;> rfl) | (simp [*, errW_none, errW_some] <;> rfl), by first | exact Kd.R_nil _ _ _ _ _ | exact Kd.N_nil _ _ _ _ _ | exact Kd.V_nil _ _ _ _ _ | exact Kd.Q_nil _ _ _ _ _ | exact Kd.S_nil _ _ _ _ _, by repeat (first | (with_reducible first | exact HB.out | apply below_alloc | apply pw_below_drewN | apply below_drew1 | refine below_set ?_ GE193.out) | exact HB.out)⟩
              · rw [if_neg c25] at H
                have c25b0 : decide ((Arr.vrd2 16 t192 a2 a3) < a4) = false := decide_eq_false c25
                clear c25
                obtain ⟨y194, hy194⟩ : ∃ y_ : Vector Int 256, y_ = (Arr.vst2 16 t192 a2 a3 (wrap64 ((Arr.vrd2 16 t192 a2 a3) - a4))) := ⟨_, rfl⟩
                replace H : ((impl_sums_debts.f k y194).bind fun bt195 => (some (bt195.1, bt195.2))) = some (r1, r2) := by first | (rw [hy194]; with_reducible exact H) | (have H2_ := (Option.bind_some _ _).symm.trans H; rw [hy194]; with_reducible exact H2_) | (have H2_ := (Option.bind_some _ _).symm.trans H; with_reducible exact H2_) | with_reducible exact H | (rw [hy194]; exact H) | exact H
                have Ny194 := Aside0.mk hy194
                clear hy194
                replace H := Option.bind_eq_some_iff.mp H
                obtain ⟨⟨t195, t198⟩, A400, H⟩ := H
                replace H : (some (t195, t198)) = some (r1, r2) := H
                have A40 := Aside0.mk A400
                clear A400
                simp only [Option.some.injEq, Prod.mk.injEq] at H
                obtain ⟨rfl, rfl⟩ := H
                go_enter Try.func37, Try.ntmps37
                try go_wp2_with (first | ((with_reducible refine gate_dst (N := 18) rfl ?_); refine Kd.R_lit (Kd.int .i64) _ 2 ?hg (N := 18) ?hd (xs := ([a2, a3] : List Int)) (inner := [.int .i64 a2, .int .i64 a3]) (ok := fun _ => True) (okp := fun _ => True) ?hr ?hp (fun _ hk => hk) trivial (Below.refl _ _) (Nat.le_refl _) (by simp) ?_; (case hd => rfl); (case hg => rfl); (case hr => first | (go_simp; done) | (go_simp; rfl)); (case hp => exact (Reps.one (show Kd.M (Kd.int .i64) _ _ _ a2 [.int .i64 a2] from rfl) (Reps.one (show Kd.M (Kd.int .i64) _ _ _ a3 [.int .i64 a3] from rfl) (Reps.none _ _)))); intro v189 w41 ho42 hb hg_ hnew_; clear hg_ hnew_; (first | rw [← Ny188.out] at ho42 | (simp only [Int.reduceToNat] at ho42; rw [← Ny188.out] at ho42)); have n0_ := Aside0.mk (Kd.R_lower ho42 (below_size (by repeat (first | (with_reducible first | exact HB.out | apply below_alloc | apply pw_below_drewN | apply below_drew1) | exact HB.out)))); have n1_ := Aside0.mk (below_step (by repeat (first | (with_reducible first | exact HB.out | apply below_alloc | apply pw_below_drewN | apply below_drew1) | exact HB.out)) hb); clear HB; have HO190 := n0_; have HB := n1_; clear n0_ n1_; clear hb ho42; obtain ⟨Ao43, co43, eo43⟩ := Kd.R_slice HO190.out; subst eo43) | ((with_reducible refine gate_callee (f := 56) rfl ?_); refine goesL_ (some 19) rfl rfl Try.func56 (by kernel_rfl) rfl #[.int .i64 a0, .slice A1 l1.length c1, .slice Ao43 y188.length co43] rfl (by (try simp only [List.map_toArray, List.map_cons, List.map_nil]); first | done | (go_simp; done) | rfl | (simp only [List.length_drop, List.length_take]; rfl)) ?_; (with_reducible refine (impl_debtsCode.calls k a0 _ _ l1 _ _ y188 t191 _ ?side1 ?side2 ?side3 ?side4 A6.out).mono ?_); (case side1 => repeat (first | exact (Kd.C_below HR1.out HB.out) | (with_reducible refine Kd.C_alloc ?_ _) | (with_reducible refine Kd.C_drewN ?_ _) | (with_reducible refine Kd.C_drew ?_))); (case side2 => exact HC1.out); (case side3 => repeat (first | exact (Kd.R_reads' HO190.out).2.2 | (with_reducible refine Kd.C_alloc ?_ _) | (with_reducible refine Kd.C_drewN ?_ _) | (with_reducible refine Kd.C_drew ?_))); (case side4 => exact (Kd.R_reads' HO190.out).2.1); rintro e w44 ⟨rfl, hb⟩; refine ⟨_, rfl, ?_⟩; have n0_ := Aside0.mk (Kd.R_below (by (with_reducible repeat (first | apply Kd.R_alloc | apply Kd.R_drewN | apply Kd.R_drew)); exact HO190.out) hb); have n1_ := Aside0.mk (below_step (by repeat (first | (with_reducible first | exact HB.out | apply below_alloc | apply pw_below_drewN | apply below_drew1) | exact HB.out)) hb); clear HO190; clear HB; have HO190 := n0_; have HB := n1_; clear n0_ n1_; (try clear hb); (try clear hb2); (try clear hk); (try clear hi)) | ((with_reducible refine gate_callee (f := 57) rfl ?_); refine goesL_ (some 24) rfl rfl Try.func57 (by kernel_rfl) rfl #[.slice A1 l1.length c1] rfl (by (try simp only [List.map_toArray, List.map_cons, List.map_nil]); first | done | (go_simp; done) | rfl | (simp only [List.length_drop, List.length_take]; rfl)) ?_; (with_reducible refine (impl_sumsOf.calls k _ _ l1 t192 _ ?side1 ?side2 A8.out).mono ?_); (case side1 => repeat (first | exact (Kd.C_below HR1.out HB.out) | (with_reducible refine Kd.C_alloc ?_ _) | (with_reducible refine Kd.C_drewN ?_ _) | (with_reducible refine Kd.C_drew ?_))); (case side2 => exact HC1.out); rintro e w45 ⟨rfl, hb⟩; refine ⟨_, rfl, ?_⟩; have n0_ := Aside0.mk (Kd.R_below (by (with_reducible repeat (first | apply Kd.R_alloc | apply Kd.R_drewN | apply Kd.R_drew)); exact HO190.out) hb); have n1_ := Aside0.mk (below_step (by repeat (first | (with_reducible first | exact HB.out | apply below_alloc | apply pw_below_drewN | apply below_drew1) | exact HB.out)) hb); clear HO190; clear HB; have HO190 := n0_; have HB := n1_; clear n0_ n1_; (try clear hb); (try clear hb2); (try clear hk); (try clear hi)) | ((with_reducible refine gate_dst (N := 13) rfl ?_); refine box_event ?hg (N := 13) ?hd (cs := (⟨Arr.arL .i64 (Vector.replicate 256 0 : Vector Int 256)⟩ : Array Value)) (t := 70) ?hr ?_; (case hd => rfl); (case hg => rfl); (case hr => first | (go_simp; done) | (go_simp; rfl)); intro gb193 hg w46 hbox hb; have n0_ := Aside0.mk (Kd.R_below (by (with_reducible repeat (first | apply Kd.R_alloc | apply Kd.R_drewN | apply Kd.R_drew)); exact HO190.out) hb); have n1_ := Aside0.mk (below_step (by repeat (first | (with_reducible first | exact HB.out | apply below_alloc | apply pw_below_drewN | apply below_drew1) | exact HB.out)) hb); have n2_ := Aside0.mk (hbox); have n3_ := Aside0.mk ((by rw [hg]; exact (below_size (by repeat (first | (with_reducible first | exact HB.out | apply below_alloc | apply pw_below_drewN | apply below_drew1) | exact HB.out))) : w.heap.size ≤ gb193)); have n4_ := Aside0.mk ((by rw [hg]; exact (below_size (by repeat (first | (with_reducible first | exact HB.out | apply below_alloc | apply pw_below_drewN | apply below_drew1) | exact HB.out))) : w.heap.size ≤ gb193)); clear HO190; clear HB; have HO190 := n0_; have HB := n1_; have BK193 := n2_; have GW193 := n3_; have GE193 := n4_; clear n0_ n1_ n2_ n3_ n4_; clear hb hbox hg) | ((with_reducible refine gate_store (t := 70) (p := 13) rfl ?_); refine Arr.storeA ?hg (T := 70) (p := 13) (v := ?vo_w47) ?ho ?hn (g := gb193) (off := 0) ?hx (m := (Arr.arL .i64 t192)) ?hy (t := 70) (pre := []) (old := (Arr.arL .i64 (Vector.replicate 256 0 : Vector Int 256))) (show w46.heap[gb193]? = some (.cells (⟨Arr.arL .i64 (Vector.replicate 256 0 : Vector Int 256)⟩ : Array Value) 70 (0, 0)) from by (with_reducible repeat (first | refine blk_drewN ?_ _ | refine blk_drew ?_ | refine blk_alloc ?_ _)); exact BK193.out) rfl (by simp [Arr.arL_length]) (n := 256) (by kernel_rfl) (by simp [Arr.arL_length]) (Arr.ones_0 ) ?_; (case ho => rfl); (case hg => rfl); (case hn => rfl); (case hx => first | (go_simp; done) | rfl | (go_simp; rfl)); (case hy => first | (go_simp; done) | rfl | (go_simp; rfl)); intro w47 hbx hg hbe; replace hbx : w47.heap[gb193]? = some (.cells (⟨Arr.arL .i64 t192⟩ : Array Value) 70 (0, 0)) := hbx; have n0_ := Aside0.mk (Kd.R_grown1 (by (with_reducible repeat (first | apply Kd.R_alloc | apply Kd.R_drewN | apply Kd.R_drew)); exact HO190.out) rfl hg (Kd.R_ne HO190.out BK193.out (by decide))); have n1_ := Aside0.mk (hbx); have n2_ := Aside0.mk (hbe _ _ (by repeat (first | (with_reducible first | exact HB.out | apply below_alloc | apply pw_below_drewN | apply below_drew1 | refine below_set ?_ GE193.out) | exact HB.out)) GE193.out); clear HO190; clear BK193; clear HB; have HO190 := n0_; have BK193 := n1_; have HB := n2_; clear n0_ n1_ n2_; (try clear hbx hg hbe); have p20 : 0 ≤ (a2 : Int) := of_decide_eq_true (by first | (with_reducible assumption) | assumption); have q20 : (a2 : Int) < 16 := of_decide_eq_true (by first | (with_reducible assumption) | assumption); replace p20 := eq_true p20; replace q20 := eq_true q20; have p23 : 0 ≤ (a3 : Int) := of_decide_eq_true (by first | (with_reducible assumption) | assumption); have q23 : (a3 : Int) < 16 := of_decide_eq_true (by first | (with_reducible assumption) | assumption); replace p23 := eq_true p23; replace q23 := eq_true q23; have hx24 : w47.cell? ⟨gb193, a2.toNat * 16 + a3.toNat, none⟩ = some (.int .i64 (Arr.vrd2 16 t192 a2 a3)) := Arr.cellN (off := 0) (l := (Arr.arL .i64 t192)) (show w47.heap[gb193]? = some (.cells (⟨Arr.arL .i64 t192⟩ : Array Value) 70 (0, 0)) from by (with_reducible repeat (first | refine blk_drewN ?_ _ | refine blk_drew ?_ | refine blk_alloc ?_ _)); exact BK193.out) rfl (a2.toNat * 16 + a3.toNat) (a2.toNat * 16 + a3.toNat) (by omega) (by have a0_ := of_eq_true p20; have b0_ := of_eq_true q20; have a1_ := of_eq_true p23; have b1_ := of_eq_true q23; omega); have hf24 := blk_frozen (show w47.heap[gb193]? = some (.cells (⟨Arr.arL .i64 t192⟩ : Array Value) 70 (0, 0)) from by (with_reducible repeat (first | refine blk_drewN ?_ _ | refine blk_drew ?_ | refine blk_alloc ?_ _)); exact BK193.out) (a2.toNat * 16 + a3.toNat)))
                have n0_ := Aside0.mk (Kd.R_drew HO190.out)
                have n1_ := Aside0.mk (blk_drew BK193.out)
                have n2_ := Aside0.mk (below_drew1 HB.out)
                clear HO190
                clear BK193
                clear HB
                have HO190 := n0_
                have BK193 := n1_
                have HB := n2_
                clear n0_ n1_ n2_
                have p33 : 0 ≤ (a2 : Int) := of_decide_eq_true (by first | (with_reducible assumption) | assumption)
                have q33 : (a2 : Int) < 16 := of_decide_eq_true (by first | (with_reducible assumption) | assumption)
                replace p33 := eq_true p33
                replace q33 := eq_true q33
                have p34 : 0 ≤ (a3 : Int) := of_decide_eq_true (by first | (with_reducible assumption) | assumption)
                have q34 : (a3 : Int) < 16 := of_decide_eq_true (by first | (with_reducible assumption) | assumption)
                replace p34 := eq_true p34
                replace q34 := eq_true q34
                have p36 : 0 ≤ (a2 : Int) := of_decide_eq_true (by first | (with_reducible assumption) | assumption)
                have q36 : (a2 : Int) < 16 := of_decide_eq_true (by first | (with_reducible assumption) | assumption)
                replace p36 := eq_true p36
                replace q36 := eq_true q36
                have p37 : 0 ≤ (a3 : Int) := of_decide_eq_true (by first | (with_reducible assumption) | assumption)
                have q37 : (a3 : Int) < 16 := of_decide_eq_true (by first | (with_reducible assumption) | assumption)
                replace p37 := eq_true p37
                replace q37 := eq_true q37
                refine start_ (n := 10) (S := fun w' => w'.cell? ⟨gb193, a2.toNat * 16 + a3.toNat, none⟩ = some (.int .i64 (Arr.vrd2 16 t192 a2 a3))) (ds := [9]) #[false, false, false, false, false, false, false, false, false, false] (by kernel_rfl) rfl rfl ((Arr.cellN (off := 0) (l := (Arr.arL .i64 t192)) (BK193.out) rfl (a2.toNat * 16 + a3.toNat) (a2.toNat * 16 + a3.toNat) (by omega) (by have a0_ := of_eq_true p33; have b0_ := of_eq_true q33; have a1_ := of_eq_true p34; have b1_ := of_eq_true q34; omega))) (fun hHeld => ?_); refine with_tabW impl_PayDebt.tab7 impl_PayDebt.bits7 (fun HT_ HW_ => ?_)
                generalize w47.drew = w48 at HO190 BK193 HB hHeld ⊢
                refine pure_ (i := 0) (N := some 36) (v := ?_) (a' := ?_) #[true, false, false, false, false, false, false, false, false, false] rfl rfl (any_of HT_.out (by kernel_rfl)) (fun _ _ _ h => h) (Or.inl ⟨by rfl, ?_⟩) ?_ ?_
                rotate_left
                · intro w'
                  go_simp
                  with_reducible rfl
                rotate_left
                · simp only [Act.put, List.setIfInBounds_toArray, List.set_cons_zero, List.set_cons_succ, i64_w, i32_w]
                  rfl
                refine pure_ (i := 1) (N := some 37) (v := ?_) (a' := ?_) #[true, true, false, false, false, false, false, false, false, false] rfl rfl (any_of HT_.out (by kernel_rfl)) (fun _ _ _ h => h) (Or.inl ⟨by rfl, ?_⟩) ?_ ?_
                rotate_left
                · intro w'
                  go_simp
                  with_reducible rfl
                rotate_left
                · simp only [Act.put, List.setIfInBounds_toArray, List.set_cons_zero, List.set_cons_succ, i64_w, i32_w]
                  rfl
                refine pure_ (i := 2) (N := some 38) (v := ?_) (a' := ?_) #[true, true, true, false, false, false, false, false, false, false] rfl rfl (any_of HT_.out (by kernel_rfl)) (fun _ _ _ h => h) (Or.inl ⟨by rfl, ?_⟩) ?_ ?_
                rotate_left
                · intro w'
                  go_simp
                  with_reducible rfl
                rotate_left
                · simp only [Act.put, List.setIfInBounds_toArray, List.set_cons_zero, List.set_cons_succ, i64_w, i32_w]
                  rfl
                refine pure_ (i := 3) (N := some 39) (v := ?_) (a' := ?_) #[true, true, true, true, false, false, false, false, false, false] rfl rfl (any_of HT_.out (by kernel_rfl)) (fun _ _ _ h => h) (Or.inl ⟨by rfl, ?_⟩) ?_ ?_
                rotate_left
                · intro w'
                  go_simp
                  with_reducible rfl
                rotate_left
                · simp only [Act.put, List.setIfInBounds_toArray, List.set_cons_zero, List.set_cons_succ, i64_w, i32_w]
                  rfl
                refine pure_ (i := 5) (N := some 41) (v := ?_) (a' := ?_) #[true, true, true, true, false, true, false, false, false, false] rfl rfl (any_of HT_.out (by kernel_rfl)) (fun _ _ _ h => h) (Or.inl ⟨by rfl, ?_⟩) ?_ ?_
                rotate_left
                · intro w'
                  go_simp
                  with_reducible rfl
                rotate_left
                · simp only [Act.put, List.setIfInBounds_toArray, List.set_cons_zero, List.set_cons_succ, i64_w, i32_w]
                  rfl
                refine pure_ (i := 7) (N := some 43) (v := ?_) (a' := ?_) #[true, true, true, true, false, true, false, true, false, false] rfl rfl (any_of HT_.out (by kernel_rfl)) (fun _ _ _ h => h) (Or.inl ⟨by rfl, ?_⟩) ?_ ?_
                rotate_left
                · intro w'
                  go_simp
                  with_reducible rfl
                rotate_left
                · simp only [Act.put, List.setIfInBounds_toArray, List.set_cons_zero, List.set_cons_succ, i64_w, i32_w]
                  rfl
                refine take_ (i := 4) (N := some 40) (v := ?_) (a' := ?_) #[true, true, true, true, true, true, false, true, false, false] rfl rfl (take_ofW HT_.out HW_.out (by kernel_rfl)) (fun _ _ _ h => h) (Or.inl ⟨by rfl, ?_⟩) hHeld ?_ ?_
                rotate_left
                · intro w' s0
                  go_simp
                  with_reducible rfl
                rotate_left
                · simp only [Act.put, List.setIfInBounds_toArray, List.set_cons_zero, List.set_cons_succ, i64_w, i32_w]
                  rfl
                refine pure_ (i := 6) (N := some 42) (v := ?_) (a' := ?_) #[true, true, true, true, true, true, true, true, false, false] rfl rfl (any_of HT_.out (by kernel_rfl)) (fun _ _ _ h => h) (Or.inl ⟨by rfl, ?_⟩) ?_ ?_
                rotate_left
                · intro w'
                  go_simp
                  with_reducible rfl
                rotate_left
                · simp only [Act.put, List.setIfInBounds_toArray, List.set_cons_zero, List.set_cons_succ, i64_w, i32_w]
                  rfl
                refine pure_ (i := 8) (N := some 44) (v := ?_) (a' := ?_) #[true, true, true, true, true, true, true, true, true, false] rfl rfl (any_of HT_.out (by kernel_rfl)) (fun _ _ _ h => h) (Or.inl ⟨by rfl, ?_⟩) ?_ ?_
                rotate_left
                · intro w'
                  go_simp
                  with_reducible rfl
                rotate_left
                · simp only [Act.put, List.setIfInBounds_toArray, List.set_cons_zero, List.set_cons_succ, i64_w, i32_w]
                  rfl
                refine last_ (i := 9) (N := none) #[true, true, true, true, true, true, true, true, true, true] rfl rfl (one_of HT_.out (by kernel_rfl)) (by decide) (fun K hK => ?_)
                have hx38 : w48.cell? ⟨gb193, a2.toNat * 16 + a3.toNat, none⟩ = some (.int .i64 (Arr.vrd2 16 t192 a2 a3)) := Arr.cellN (off := 0) (l := (Arr.arL .i64 t192)) (show w48.heap[gb193]? = some (.cells (⟨Arr.arL .i64 t192⟩ : Array Value) 70 (0, 0)) from by (with_reducible repeat (first | refine blk_drewN ?_ _ | refine blk_drew ?_ | refine blk_alloc ?_ _)); exact BK193.out) rfl (a2.toNat * 16 + a3.toNat) (a2.toNat * 16 + a3.toNat) (by omega) (by have a0_ := of_eq_true p36; have b0_ := of_eq_true q36; have a1_ := of_eq_true p37; have b1_ := of_eq_true q37; omega)
                have hf38 := blk_frozen (show w48.heap[gb193]? = some (.cells (⟨Arr.arL .i64 t192⟩ : Array Value) 70 (0, 0)) from by (with_reducible repeat (first | refine blk_drewN ?_ _ | refine blk_drew ?_ | refine blk_alloc ?_ _)); exact BK193.out) (a2.toNat * 16 + a3.toNat)
                refine skip_ (w1 := w48.setCell ⟨gb193, a2.toNat * 16 + a3.toNat, none⟩ (.int .i64 (wrap64 ((Arr.vrd2 16 t192 a2 a3) - a4)))) (by rfl) rfl ?_ ?_
                · first | (go_simp; done) | (go_simp; rfl)
                refine hK.out _ _ ?_
                clear hK K
                refine done_ (done_of HT_.out (by kernel_rfl)) ?_
                obtain ⟨w49, hw_, hbx, hg, hbe⟩ := Arr.stored_at (g := gb193) (off := 0) (m := a2.toNat * 16 + a3.toNat) (n := a2.toNat * 16 + a3.toNat) (k := .i64) (y := (wrap64 ((Arr.vrd2 16 t192 a2 a3) - a4))) (x := t192) (t := 70) (pre := []) (show w48.heap[gb193]? = some (.cells (⟨Arr.arL .i64 t192⟩ : Array Value) 70 (0, 0)) from by (with_reducible repeat (first | refine blk_drewN ?_ _ | refine blk_drew ?_ | refine blk_alloc ?_ _)); exact BK193.out) rfl (by omega)
                rw [hw_]
                clear hw_
                replace hbx : w49.heap[gb193]? = some (.cells (⟨Arr.arL .i64 y194⟩ : Array Value) 70 (0, 0)) := (by rw [Ny194.out]; exact hbx)
                have n0_ := Aside0.mk (Kd.R_grown1 (by (with_reducible repeat (first | apply Kd.R_alloc | apply Kd.R_drewN | apply Kd.R_drew)); exact HO190.out) rfl hg (Kd.R_ne HO190.out BK193.out (by decide)))
                have n1_ := Aside0.mk (hbx)
                have n2_ := Aside0.mk (hbe _ _ (by repeat (first | (with_reducible first | exact HB.out | apply below_alloc | apply pw_below_drewN | apply below_drew1 | refine below_set ?_ GE193.out) | exact HB.out)) GE193.out)
                clear HO190
                clear BK193
                clear HB
                have HO190 := n0_
                have BK193 := n1_
                have HB := n2_
                clear n0_ n1_ n2_
                (try clear hbx hg hbe)
                try go_wp2_with (first | ((with_reducible refine Arr.gate_load (t := 70) (p := 13) rfl ?_); (try (refine gate_guard (by rfl) ?_; dsimp only)); refine Arr.loadA ?hg (T := 70) (p := 13) ?ho (g := gb193) (off := 0) ?hx (t := 70) (l := (Arr.arL .i64 y194)) (m := (Arr.arL .i64 y194)) (fr := (0, 0)) (show w49.heap[gb193]? = some (.cells (⟨Arr.arL .i64 y194⟩ : Array Value) 70 (0, 0)) from by (with_reducible repeat (first | refine blk_drewN ?_ _ | refine blk_drew ?_ | refine blk_alloc ?_ _)); exact BK193.out) rfl Try.underlying70 rfl (n := 256) (by kernel_rfl) (by simp [Arr.arL_length]) ?_; (case hg => rfl); (case ho => rfl); (case hx => first | (go_simp; done) | rfl | (go_simp; rfl))) | ((with_reducible refine gate_callee (f := 62) rfl ?_); refine goesL_ (some 46) rfl rfl Try.func62 (by kernel_rfl) rfl #[.agg (⟨Arr.arL .i64 y194⟩ : Array Value)] rfl (by (try simp only [List.map_toArray, List.map_cons, List.map_nil]); first | done | (go_simp; done) | rfl | (simp only [List.length_drop, List.length_take]; rfl)) ?_; (with_reducible refine (impl_sums_debts.calls k y194 t195 t198 _ A40.out).mono ?_); rintro e w50 ⟨v196, rfl, ho0, hb⟩; refine ⟨_, rfl, ?_⟩; have n0_ := Aside0.mk (Kd.R_below (by (with_reducible repeat (first | apply Kd.R_alloc | apply Kd.R_drewN | apply Kd.R_drew)); exact HO190.out) hb); have n1_ := Aside0.mk (Kd.R_lower ho0 (below_size (by repeat (first | (with_reducible first | exact HB.out | apply below_alloc | apply pw_below_drewN | apply below_drew1 | refine below_set ?_ GE193.out) | exact HB.out)))); have n2_ := Aside0.mk (blk_below (g := gb193) (o := .cells (⟨Arr.arL .i64 y194⟩ : Array Value) 70 (0, 0)) (by (with_reducible repeat (first | refine blk_drewN ?_ _ | refine blk_drew ?_ | refine blk_alloc ?_ _)); exact BK193.out) hb); have n3_ := Aside0.mk (below_step (by repeat (first | (with_reducible first | exact HB.out | apply below_alloc | apply pw_below_drewN | apply below_drew1 | refine below_set ?_ GE193.out) | exact HB.out)) hb); clear HO190; clear BK193; clear HB; have HO190 := n0_; have HO197 := n1_; have BK193 := n2_; have HB := n3_; clear n0_ n1_ n2_ n3_; (try clear hb); (try clear hb2); (try clear hk); (try clear hi); (try clear ho0)))
                go_ret2
                exact ⟨_, by first | rfl | (simp [errW_none, errW_some] <;> rfl) | (simp [*, errW_none, errW_some] <;> rfl), by (with_reducible repeat (first | apply Kd.R_alloc | apply Kd.R_drewN | apply Kd.R_drew)); exact HO197.out, by repeat (first | (with_reducible first | exact HB.out | apply below_alloc | apply pw_below_drewN | apply below_drew1 | refine below_set ?_ GE193.out) | exact HB.out)⟩
            · rw [if_neg c22] at H
              exact absurd H (by simp)
          · rw [if_neg c21] at H
            exact absurd H (by simp)
        · rw [if_neg c19] at H
          exact absurd H (by simp)
      · rw [if_neg c18] at H
        exact absurd H (by simp)
  · rw [if_neg c7] at H
    have c7b0 : (t191 == 0) = false := beq_eq_false_iff_ne.mpr c7
    have c7b1 : (t191 != 0) = true := bne_iff_ne.mpr c7
    simp only [Option.some.injEq, Prod.mk.injEq] at H
    obtain ⟨rfl, rfl⟩ := H
    go_enter Try.func37, Try.ntmps37
    go_wp2_with (first | ((with_reducible refine gate_dst (N := 18) rfl ?_); refine Kd.R_lit (Kd.int .i64) _ 2 ?hg (N := 18) ?hd (xs := ([a2, a3] : List Int)) (inner := [.int .i64 a2, .int .i64 a3]) (ok := fun _ => True) (okp := fun _ => True) ?hr ?hp (fun _ hk => hk) trivial (Below.refl _ _) (Nat.le_refl _) (by simp) ?_; (case hd => rfl); (case hg => rfl); (case hr => first | (go_simp; done) | (go_simp; rfl)); (case hp => exact (Reps.one (show Kd.M (Kd.int .i64) _ _ _ a2 [.int .i64 a2] from rfl) (Reps.one (show Kd.M (Kd.int .i64) _ _ _ a3 [.int .i64 a3] from rfl) (Reps.none _ _)))); intro v189 w51 ho52 hb hg_ hnew_; clear hg_ hnew_; (first | rw [← Ny188.out] at ho52 | (simp only [Int.reduceToNat] at ho52; rw [← Ny188.out] at ho52)); have n0_ := Aside0.mk (Kd.R_lower ho52 (below_size (by repeat (first | (with_reducible first | exact HB.out | apply below_alloc | apply pw_below_drewN | apply below_drew1) | exact HB.out)))); have n1_ := Aside0.mk (below_step (by repeat (first | (with_reducible first | exact HB.out | apply below_alloc | apply pw_below_drewN | apply below_drew1) | exact HB.out)) hb); clear HB; have HO190 := n0_; have HB := n1_; clear n0_ n1_; clear hb ho52; obtain ⟨Ao53, co53, eo53⟩ := Kd.R_slice HO190.out; subst eo53) | ((with_reducible refine gate_callee (f := 56) rfl ?_); refine goesL_ (some 19) rfl rfl Try.func56 (by kernel_rfl) rfl #[.int .i64 a0, .slice A1 l1.length c1, .slice Ao53 y188.length co53] rfl (by (try simp only [List.map_toArray, List.map_cons, List.map_nil]); first | done | (go_simp; done) | rfl | (simp only [List.length_drop, List.length_take]; rfl)) ?_; (with_reducible refine (impl_debtsCode.calls k a0 _ _ l1 _ _ y188 t191 _ ?side1 ?side2 ?side3 ?side4 A6.out).mono ?_); (case side1 => repeat (first | exact (Kd.C_below HR1.out HB.out) | (with_reducible refine Kd.C_alloc ?_ _) | (with_reducible refine Kd.C_drewN ?_ _) | (with_reducible refine Kd.C_drew ?_))); (case side2 => exact HC1.out); (case side3 => repeat (first | exact (Kd.R_reads' HO190.out).2.2 | (with_reducible refine Kd.C_alloc ?_ _) | (with_reducible refine Kd.C_drewN ?_ _) | (with_reducible refine Kd.C_drew ?_))); (case side4 => exact (Kd.R_reads' HO190.out).2.1); rintro e w54 ⟨rfl, hb⟩; refine ⟨_, rfl, ?_⟩; have n0_ := Aside0.mk (Kd.R_below (by (with_reducible repeat (first | apply Kd.R_alloc | apply Kd.R_drewN | apply Kd.R_drew)); exact HO190.out) hb); have n1_ := Aside0.mk (below_step (by repeat (first | (with_reducible first | exact HB.out | apply below_alloc | apply pw_below_drewN | apply below_drew1) | exact HB.out)) hb); clear HO190; clear HB; have HO190 := n0_; have HB := n1_; clear n0_ n1_; (try clear hb); (try clear hb2); (try clear hk); (try clear hi)))
    go_ret2
    exact ⟨_, by first | rfl | (simp [errW_none, errW_some] <;> rfl) | (simp [*, errW_none, errW_some] <;> rfl), by first | exact Kd.R_nil _ _ _ _ _ | exact Kd.N_nil _ _ _ _ _ | exact Kd.V_nil _ _ _ _ _ | exact Kd.Q_nil _ _ _ _ _ | exact Kd.S_nil _ _ _ _ _, by repeat (first | (with_reducible first | exact HB.out | apply below_alloc | apply pw_below_drewN | apply below_drew1) | exact HB.out)⟩

end Go.Proofs.Ytofcgkcpkngocaa.MPayDebt
