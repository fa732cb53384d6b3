-- by a program of this session, for this claim
import Derived.Test.YtofcgkcpkngocaaMPassDebtx0
namespace Go.Proofs.Ytofcgkcpkngocaa.MPassDebt
open Go.RowKit Go.Proofs.YtofcgkcpkngocaaW.PrintWords Go.Proofs.YtofcgkcpkngocaaW.PrintLast Go.Proofs.YtofcgkcpkngocaaW.PrintMore
attribute [local go_sem] max2_int min2_int max_two min_two max_three min_three max_four min_four   -- for this text's walks alone
set_option linter.unusedVariables false
set_option linter.unusedSimpArgs false

/-! ### impl_sums_debts: function 62 -/
mutual
def impl_sums_debts.l0 : Nat → List (S65) → Int → Vector Int 256 → Option ((List (S65)) × Int)
  | 0, _, _, _ => none
  | k + 1, x4, x11, x501 => if x11 < 16 then (if 0 ≤ x11 then (impl_sums_debts.l1 k x4 x11 x11 0 x501 (Arr.vrow 16 x501 x11)) else (none)) else (if (x4.length : Int) > 60 then (some (([] : List (S65)), 3)) else (some (x4, 0)))
def impl_sums_debts.l1 : Nat → List (S65) → Int → Int → Int → Vector Int 256 → Vector Int 16 → Option ((List (S65)) × Int)
  | 0, _, _, _, _, _, _ => none
  | k + 1, x4, x5, x11, x16, x501, x503 => if x16 < 16 then (if 0 ≤ x16 then (if (Arr.vrd x503 x16) > 100000000 then (some (([] : List (S65)), 3)) else (if (Arr.vrd x503 x16) > 0 then (if x4.length < 5864062014805 then (impl_sums_debts.l1 k (x4 ++ [(⟨x5, x16, Arr.vrd x503 x16⟩ : S65)]) x5 x11 (wrap64 (x16 + 1)) x501 x503) else (none)) else (impl_sums_debts.l1 k x4 x5 x11 (wrap64 (x16 + 1)) x501 x503))) else (none)) else (impl_sums_debts.l0 k x4 (wrap64 (x11 + 1)) x501)
end
def impl_sums_debts.f (k : Nat) (a0_0 : Vector Int 256) : Option ((List (S65)) × Int) := impl_sums_debts.l0 k (([] : List (S65))) 0 a0_0
theorem impl_sums_debts.mono_l : ∀ k, (∀ y0 y1 y2, LeO (impl_sums_debts.l0 k y0 y1 y2) (impl_sums_debts.l0 (k + 1) y0 y1 y2)) ∧ (∀ y0 y1 y2 y3 y4 y5, LeO (impl_sums_debts.l1 k y0 y1 y2 y3 y4 y5) (impl_sums_debts.l1 (k + 1) y0 y1 y2 y3 y4 y5))
  | 0 => ⟨fun _ _ _ r h => by simp [impl_sums_debts.l0] at h, fun _ _ _ _ _ _ r h => by simp [impl_sums_debts.l1] at h⟩
  | k + 1 => by
    obtain ⟨ih0, ih1⟩ := impl_sums_debts.mono_l k
    refine ⟨?_, ?_⟩
    · intro y0 y1 y2
      unfold impl_sums_debts.l0
      repeat' first
      | (with_reducible exact ih0 _ _ _)
      | (with_reducible exact ih1 _ _ _ _ _ _)
      | (with_reducible exact LeO.refl _)
      | (with_reducible exact LeO.none _)
      | (with_reducible refine LeO.ite ?_ ?_)
      | (with_reducible refine LeO.bind ?_ (fun _ => ?_))
      | exact ih0 _ _ _
      | exact ih1 _ _ _ _ _ _
      | exact LeO.none _
      | refine LeO.ite ?_ ?_
      | refine LeO.bind ?_ (fun _ => ?_)
    · intro y0 y1 y2 y3 y4 y5
      unfold impl_sums_debts.l1
      repeat' first
      | (with_reducible exact ih0 _ _ _)
      | (with_reducible exact ih1 _ _ _ _ _ _)
      | (with_reducible exact LeO.refl _)
      | (with_reducible exact LeO.none _)
      | (with_reducible refine LeO.ite ?_ ?_)
      | (with_reducible refine LeO.bind ?_ (fun _ => ?_))
      | exact ih0 _ _ _
      | exact ih1 _ _ _ _ _ _
      | exact LeO.none _
      | refine LeO.ite ?_ ?_
      | refine LeO.bind ?_ (fun _ => ?_)
theorem impl_sums_debts.mono : ∀ a0 k, LeO (impl_sums_debts.f k a0) (impl_sums_debts.f (k + 1) a0) := by
  intro a0 k
  obtain ⟨ih0, ih1⟩ := impl_sums_debts.mono_l k
  unfold impl_sums_debts.f
  repeat' first
      | (with_reducible exact ih0 _ _ _)
      | (with_reducible exact ih1 _ _ _ _ _ _)
      | (with_reducible exact LeO.refl _)
      | (with_reducible exact LeO.none _)
      | (with_reducible refine LeO.ite ?_ ?_)
      | (with_reducible refine LeO.bind ?_ (fun _ => ?_))
      | exact ih0 _ _ _
      | exact ih1 _ _ _ _ _ _
      | exact LeO.none _
      | refine LeO.ite ?_ ?_
      | refine LeO.bind ?_ (fun _ => ?_)
set_option maxHeartbeats 8000000 in
set_option maxRecDepth 100000 in
theorem impl_sums_debts.calls (k : Nat) (a0_0 : Vector Int 256) (r1 : List (S65)) (r2 : Int) (w : World) (h : impl_sums_debts.f k a0_0 = some (r1, r2)) :
    Calls Try.prog 62 #[.agg (⟨Arr.arL .i64 a0_0⟩ : Array Value)] w fun e w' => ∃ v0_ : Value, e = .returned (.tuple #[v0_, .int .i64 r2]) ∧ Kd.R k65 65 w' w.heap.size (fun _ => True) v0_ r1 ∧ Below w.heap.size w w' := by
  have hu70 := Try.underlying70
  have hu61 := Try.underlying61
  have hu65 := Try.underlying65
  have HB := Aside0.mk (Below.refl w.heap.size w)
  have H : (impl_sums_debts.l0 k (([] : List (S65))) 0 a0_0) = some (r1, r2) := h
  clear h
  obtain ⟨y190, hy190⟩ : ∃ y_ : List (S65), y_ = (([] : List (S65))) := ⟨_, rfl⟩
  replace H : (impl_sums_debts.l0 k y190 0 a0_0) = some (r1, r2) := by first | (rw [hy190]; with_reducible exact H) | (have H2_ := (Option.bind_some _ _).symm.trans H; rw [hy190]; with_reducible exact H2_) | (have H2_ := (Option.bind_some _ _).symm.trans H; with_reducible exact H2_) | with_reducible exact H | (rw [hy190]; exact H) | exact H
  have Ny190 := Aside0.mk hy190
  clear hy190
  have H' := Aside0.mk H
  clear H
  go_enter Try.func62, Try.ntmps62
  go_wp2_with (first | ((with_reducible refine gate_dst (N := 1) rfl ?_); refine box_event ?hg (N := 1) ?hd (cs := (⟨Arr.arL .i64 a0_0⟩ : Array Value)) (t := 70) ?hr ?_; (case hd => rfl); (case hg => rfl); (case hr => first | (go_simp; done) | (go_simp; rfl)); intro gb189 hg w3 hbox hb; have n0_ := Aside0.mk (below_step (by repeat (first | (with_reducible first | exact HB.out | apply below_alloc | apply pw_below_drewN | apply below_drew1) | exact HB.out)) hb); have n1_ := Aside0.mk (hbox); have n2_ := Aside0.mk ((by rw [hg]; exact (below_size (by repeat (first | (with_reducible first | exact HB.out | apply below_alloc | apply pw_below_drewN | apply below_drew1) | exact HB.out))) : w.heap.size ≤ gb189)); have n3_ := Aside0.mk ((by rw [hg]; exact (below_size (by repeat (first | (with_reducible first | exact HB.out | apply below_alloc | apply pw_below_drewN | apply below_drew1) | exact HB.out))) : w.heap.size ≤ gb189)); clear HB; have HB := n0_; have BK189 := n1_; have GW189 := n2_; have GE189 := n3_; clear n0_ n1_ n2_ n3_; clear hb hbox hg) | ((with_reducible refine gate_dst (N := 9) rfl ?_); refine Kd.R_lit k65 _ 65 ?hg (N := 9) ?hd (xs := ([] : List (S65))) (inner := []) (ok := fun _ => True) (okp := fun _ => True) ?hr ?hp (fun _ hk => hk) trivial (Below.refl _ _) (Nat.le_refl _) (by simp) ?_; (case hd => rfl); (case hg => rfl); (case hr => first | (go_simp; done) | (go_simp; rfl)); (case hp => exact (Reps.none _ _)); intro v191 w4 ho5 hb hg_ hnew_; clear hg_ hnew_; (first | rw [← Ny190.out] at ho5 | (simp only [Int.reduceToNat] at ho5; rw [← Ny190.out] at ho5)); have n0_ := Aside0.mk (Kd.R_lower ho5 (below_size (by repeat (first | (with_reducible first | exact HB.out | apply below_alloc | apply pw_below_drewN | apply below_drew1 | refine below_set ?_ GE189.out) | exact HB.out)))); have n1_ := Aside0.mk (blk_below (g := gb189) (o := .cells (⟨Arr.arL .i64 a0_0⟩ : Array Value) 70 (0, 0)) (by (with_reducible repeat (first | refine blk_drewN ?_ _ | refine blk_drew ?_ | refine blk_alloc ?_ _)); exact BK189.out) hb); have n2_ := Aside0.mk (below_step (by repeat (first | (with_reducible first | exact HB.out | apply below_alloc | apply pw_below_drewN | apply below_drew1 | refine below_set ?_ GE189.out) | exact HB.out)) hb); clear BK189; clear HB; have HO192 := n0_; have BK189 := n1_; have HB := n2_; clear n0_ n1_ n2_; clear hb ho5) | ((with_reducible refine Arr.gate_load (t := 70) (p := 1) rfl ?_); (try (refine gate_guard (by rfl) ?_; dsimp only)); refine Arr.loadA ?hg (T := 70) (p := 1) ?ho (g := gb189) (off := 0) ?hx (t := 70) (l := (Arr.arL .i64 a0_0)) (m := (Arr.arL .i64 a0_0)) (fr := (0, 0)) (show w4.heap[gb189]? = some (.cells (⟨Arr.arL .i64 a0_0⟩ : Array Value) 70 (0, 0)) from by (with_reducible repeat (first | refine blk_drewN ?_ _ | refine blk_drew ?_ | refine blk_alloc ?_ _)); exact BK189.out) rfl Try.underlying70 rfl (n := 256) (by kernel_rfl) (by simp [Arr.arL_length]) ?_; (case hg => rfl); (case ho => rfl); (case hx => first | (go_simp; done) | rfl | (go_simp; rfl))))
  go_loopg [4, 11] k (fun kq v4 v11 w' => ∃ (x4_1 : List (S65)) (x11_1 : Int), v11 = .int .i64 x11_1 ∧ Aside0 (impl_sums_debts.l0 kq x4_1 x11_1 a0_0 = some (r1, r2)) ∧ Aside0 (kq ≤ k) ∧ Aside0 (Kd.R k65 65 w' w.heap.size (fun _ => True) v4 x4_1) ∧ Aside0 (w'.heap[gb189]? = some (.cells (⟨Arr.arL .i64 a0_0⟩ : Array Value) 70 (0, 0))) ∧ Aside0 (Below w.heap.size w w'))
  case atStart => exact ⟨(y190), (0), (by first | rfl | (simp; done) | (simp [*]; done)), H', ⟨Nat.le_refl _⟩, ⟨by (with_reducible repeat (first | apply Kd.R_alloc | apply Kd.R_drewN | apply Kd.R_drew)); exact HO192.out⟩, ⟨by (with_reducible repeat (first | refine blk_drewN ?_ _ | refine blk_drew ?_ | refine blk_alloc ?_ _)); exact BK189.out⟩, ⟨by repeat (first | (with_reducible first | exact HB.out | apply below_alloc | apply pw_below_drewN | apply below_drew1 | refine below_set ?_ GE189.out) | exact HB.out)⟩⟩
  case round =>
    clear H'
    try clear p2
    obtain ⟨x4_1, x11_1, rfl, HA, HK1, HO_4, BK189, HB⟩ := hrel
    cases gk with
    | zero => exact absurd HA.out (by simp [impl_sums_debts.l0])
    | succ k1 =>
      have H := HA.out
      clear HA
      simp only [impl_sums_debts.l0] at H
      by_cases c6 : x11_1 < 16
      · rw [if_pos c6] at H
        have c6b0 : decide (x11_1 < 16) = true := decide_eq_true c6
        clear c6
        by_cases c7 : 0 ≤ x11_1
        · rw [if_pos c7] at H
          have c7b0 : decide (0 ≤ x11_1) = true := decide_eq_true c7
          clear c7
          have H' := Aside0.mk H
          clear H
          have hx8 := fun W_ => Arr.index_row (m := 16) (k := .i64) (P := Try.prog) (w := W_) Try.underlying70 Try.underlying61 (by kernel_rfl) (by kernel_rfl) a0_0 x11_1 .i64 (of_decide_eq_true (by first | (with_reducible assumption) | assumption)) (of_decide_eq_true (by first | (with_reducible assumption) | assumption))
          have p8 : 0 ≤ (x11_1 : Int) := of_decide_eq_true (by first | (with_reducible assumption) | assumption)
          have q8 : (x11_1 : Int) < 16 := of_decide_eq_true (by first | (with_reducible assumption) | assumption)
          replace p8 := eq_true p8
          replace q8 := eq_true q8
          go_wp2_with (first | ((with_reducible refine gate_dst (N := 6) rfl ?_); refine box_event ?hg (N := 6) ?hd (cs := (⟨Arr.arL .i64 (Vector.replicate 16 0 : Vector Int 16)⟩ : Array Value)) (t := 61) ?hr ?_; (case hd => rfl); (case hg => rfl); (case hr => first | (go_simp; done) | (go_simp; rfl)); intro gb193 hg w11 hbox hb; have n0_ := Aside0.mk (Kd.R_below (by (with_reducible repeat (first | apply Kd.R_alloc | apply Kd.R_drewN | apply Kd.R_drew)); exact HO_4.out) hb); have n1_ := Aside0.mk (blk_below (g := gb189) (o := .cells (⟨Arr.arL .i64 a0_0⟩ : Array Value) 70 (0, 0)) (by (with_reducible repeat (first | refine blk_drewN ?_ _ | refine blk_drew ?_ | refine blk_alloc ?_ _)); exact BK189.out) hb); have n2_ := Aside0.mk (below_step (by repeat (first | (with_reducible first | exact HB.out | apply below_alloc | apply pw_below_drewN | apply below_drew1 | refine below_set ?_ GE189.out) | exact HB.out)) hb); have n3_ := Aside0.mk (hbox); have n4_ := Aside0.mk ((by rw [hg]; exact (below_size (by repeat (first | (with_reducible first | exact HB.out | apply below_alloc | apply pw_below_drewN | apply below_drew1 | refine below_set ?_ GE189.out) | exact HB.out))) : w.heap.size ≤ gb193)); have n5_ := Aside0.mk ((by rw [hg]; exact (below_size (by repeat (first | (with_reducible first | exact HB.out | apply below_alloc | apply pw_below_drewN | apply below_drew1 | refine below_set ?_ GE189.out) | exact HB.out))) : w.heap.size ≤ gb193)); have n6_ := Aside0.mk ((by rw [hg]; exact Nat.ne_of_lt (blk_lt (g := gb189) (o := .cells (⟨Arr.arL .i64 a0_0⟩ : Array Value) 70 (0, 0)) (by (with_reducible repeat (first | refine blk_drewN ?_ _ | refine blk_drew ?_ | refine blk_alloc ?_ _)); exact BK189.out)) : gb189 ≠ gb193)); have n7_ := Aside0.mk ((by rw [hg]; exact Nat.ne_of_gt (blk_lt (g := gb189) (o := .cells (⟨Arr.arL .i64 a0_0⟩ : Array Value) 70 (0, 0)) (by (with_reducible repeat (first | refine blk_drewN ?_ _ | refine blk_drew ?_ | refine blk_alloc ?_ _)); exact BK189.out)) : gb193 ≠ gb189)); clear HO_4; clear BK189; clear HB; have HO_4 := n0_; have BK189 := n1_; have HB := n2_; have BK193 := n3_; have GW193 := n4_; have GE193 := n5_; have NB189_193 := n6_; have NB193_189 := n7_; clear n0_ n1_ n2_ n3_ n4_ n5_ n6_ n7_; clear hb hbox hg) | ((with_reducible refine gate_store (t := 61) (p := 6) rfl ?_); refine Arr.storeA ?hg (T := 61) (p := 6) (v := ?vo_w12) ?ho ?hn (g := gb193) (off := 0) ?hx (m := (Arr.arL .i64 (Arr.vrow 16 a0_0 x11_1))) ?hy (t := 61) (pre := []) (old := (Arr.arL .i64 (Vector.replicate 16 0 : Vector Int 16))) (show w11.heap[gb193]? = some (.cells (⟨Arr.arL .i64 (Vector.replicate 16 0 : Vector Int 16)⟩ : Array Value) 61 (0, 0)) from by (with_reducible repeat (first | refine blk_drewN ?_ _ | refine blk_drew ?_ | refine blk_alloc ?_ _)); exact BK193.out) rfl (by simp [Arr.arL_length]) (n := 16) (by kernel_rfl) (by simp [Arr.arL_length]) (Arr.ones_0 ) ?_; (case ho => rfl); (case hg => rfl); (case hn => rfl); (case hx => first | (go_simp; done) | rfl | (go_simp; rfl)); (case hy => first | (go_simp; done) | rfl | (go_simp; rfl)); intro w12 hbx hg hbe; replace hbx : w12.heap[gb193]? = some (.cells (⟨Arr.arL .i64 (Arr.vrow 16 a0_0 x11_1)⟩ : Array Value) 61 (0, 0)) := hbx; have n0_ := Aside0.mk (Kd.R_grown1 (by (with_reducible repeat (first | apply Kd.R_alloc | apply Kd.R_drewN | apply Kd.R_drew)); exact HO_4.out) rfl hg (Kd.R_ne HO_4.out BK193.out (by decide))); have n1_ := Aside0.mk (blk_grown (g := gb189) (o := .cells (⟨Arr.arL .i64 a0_0⟩ : Array Value) 70 (0, 0)) (by (with_reducible repeat (first | refine blk_drewN ?_ _ | refine blk_drew ?_ | refine blk_alloc ?_ _)); exact BK189.out) hg (fun e_ => NB189_193.out (Option.some.inj e_))); have n2_ := Aside0.mk (hbx); have n3_ := Aside0.mk (hbe _ _ (by repeat (first | (with_reducible first | exact HB.out | apply below_alloc | apply pw_below_drewN | apply below_drew1 | refine below_set ?_ GE189.out | refine below_set ?_ GE193.out) | exact HB.out)) GE193.out); clear HO_4; clear BK189; clear BK193; clear HB; have HO_4 := n0_; have BK189 := n1_; have BK193 := n2_; have HB := n3_; clear n0_ n1_ n2_ n3_; (try clear hbx hg hbe)) | ((with_reducible refine Arr.gate_load (t := 61) (p := 6) rfl ?_); (try (refine gate_guard (by rfl) ?_; dsimp only)); refine Arr.loadA ?hg (T := 61) (p := 6) ?ho (g := gb193) (off := 0) ?hx (t := 61) (l := (Arr.arL .i64 (Arr.vrow 16 a0_0 x11_1))) (m := (Arr.arL .i64 (Arr.vrow 16 a0_0 x11_1))) (fr := (0, 0)) (show w12.heap[gb193]? = some (.cells (⟨Arr.arL .i64 (Arr.vrow 16 a0_0 x11_1)⟩ : Array Value) 61 (0, 0)) from by (with_reducible repeat (first | refine blk_drewN ?_ _ | refine blk_drew ?_ | refine blk_alloc ?_ _)); exact BK193.out) rfl Try.underlying61 rfl (n := 16) (by kernel_rfl) (by simp [Arr.arL_length]) ?_; (case hg => rfl); (case ho => rfl); (case hx => first | (go_simp; done) | rfl | (go_simp; rfl))))
          go_loopg [4, 16] k1 (fun kq v4 v16 w' => ∃ (x4_2 : List (S65)) (x16_2 : Int), v16 = .int .i64 x16_2 ∧ Aside0 (impl_sums_debts.l1 kq x4_2 x11_1 x11_1 x16_2 a0_0 (Arr.vrow 16 a0_0 x11_1) = some (r1, r2)) ∧ Aside0 (kq ≤ k1) ∧ Aside0 (Kd.R k65 65 w' w.heap.size (fun _ => True) v4 x4_2) ∧ Aside0 (w'.heap[gb189]? = some (.cells (⟨Arr.arL .i64 a0_0⟩ : Array Value) 70 (0, 0))) ∧ Aside0 (w'.heap[gb193]? = some (.cells (⟨Arr.arL .i64 (Arr.vrow 16 a0_0 x11_1)⟩ : Array Value) 61 (0, 0))) ∧ Aside0 (Below w.heap.size w w'))
          case atStart => exact ⟨(x4_1), (0), (by first | rfl | (simp; done) | (simp [*]; done)), H', ⟨Nat.le_refl _⟩, ⟨by (with_reducible repeat (first | apply Kd.R_alloc | apply Kd.R_drewN | apply Kd.R_drew)); exact HO_4.out⟩, ⟨by (with_reducible repeat (first | refine blk_drewN ?_ _ | refine blk_drew ?_ | refine blk_alloc ?_ _)); exact BK189.out⟩, ⟨by (with_reducible repeat (first | refine blk_drewN ?_ _ | refine blk_drew ?_ | refine blk_alloc ?_ _)); exact BK193.out⟩, ⟨by repeat (first | (with_reducible first | exact HB.out | apply below_alloc | apply pw_below_drewN | apply below_drew1 | refine below_set ?_ GE189.out | refine below_set ?_ GE193.out) | exact HB.out)⟩⟩
          case round =>
            clear H'
            try clear p2
            try clear c6
            try clear c6b0
            try clear c7
            try clear c7b0
            try clear p8
            try clear q8
            try clear hx8
            try clear p2
            try clear p8
            try clear q8
            obtain ⟨x4_2, x16_2, rfl, HA, HK2, HO_4, BK189, BK193, HB⟩ := hrel
            cases gk with
            | zero => exact absurd HA.out (by simp [impl_sums_debts.l1])
            | succ k2 =>
              have H := HA.out
              clear HA
              simp only [impl_sums_debts.l1] at H
              by_cases c13 : x16_2 < 16
              · rw [if_pos c13] at H
                have c13b0 : decide (x16_2 < 16) = true := decide_eq_true c13
                clear c13
                by_cases c14 : 0 ≤ x16_2
                · rw [if_pos c14] at H
                  have c14b0 : decide (0 ≤ x16_2) = true := decide_eq_true c14
                  clear c14
                  by_cases c16 : (Arr.vrd (Arr.vrow 16 a0_0 x11_1) x16_2) > 100000000
                  · rw [if_pos c16] at H
                    have c16b0 : decide (100000000 < (Arr.vrd (Arr.vrow 16 a0_0 x11_1) x16_2)) = true := decide_eq_true c16
                    clear c16
                    simp only [Option.some.injEq, Prod.mk.injEq] at H
                    obtain ⟨rfl, rfl⟩ := H
                    have hx15 := fun W_ => Arr.index_arr (P := Try.prog) (w := W_) Try.underlying61 Try.underlying2 (by kernel_rfl) (by kernel_rfl) (Arr.vrow 16 a0_0 x11_1) x16_2 .i64 (of_decide_eq_true (by first | (with_reducible assumption) | assumption)) (of_decide_eq_true (by first | (with_reducible assumption) | assumption))
                    have p15 : 0 ≤ (x16_2 : Int) := of_decide_eq_true (by first | (with_reducible assumption) | assumption)
                    have q15 : (x16_2 : Int) < 16 := of_decide_eq_true (by first | (with_reducible assumption) | assumption)
                    replace p15 := eq_true p15
                    replace q15 := eq_true q15
                    go_wp2
                    go_ret2
                    exact ⟨_, by first | rfl | (simp [errW_none, errW_some] <;> rfl) | (simp [*, errW_none, errW_some] <;> rfl), by first | exact Kd.R_nil _ _ _ _ _ | exact Kd.N_nil _ _ _ _ _ | exact Kd.V_nil _ _ _ _ _ | exact Kd.Q_nil _ _ _ _ _ | exact Kd.S_nil _ _ _ _ _, by repeat (first | (with_reducible first | exact HB.out | apply below_alloc | apply pw_below_drewN | apply below_drew1 | refine below_set ?_ GE189.out | refine below_set ?_ GE193.out) | exact HB.out)⟩
                  · rw [if_neg c16] at H
                    have c16b0 : decide (100000000 < (Arr.vrd (Arr.vrow 16 a0_0 x11_1) x16_2)) = false := decide_eq_false c16
                    clear c16
                    by_cases c17 : (Arr.vrd (Arr.vrow 16 a0_0 x11_1) x16_2) > 0
                    · rw [if_pos c17] at H
                      have c17b0 : decide (0 < (Arr.vrd (Arr.vrow 16 a0_0 x11_1) x16_2)) = true := decide_eq_true c17
                      clear c17
                      by_cases c18 : x4_2.length < 5864062014805
                      · rw [if_pos c18] at H
                        have LMc18 := Aside0.mk c18
                        clear c18
                        obtain ⟨y194, hy194⟩ : ∃ y_ : List (S65), y_ = (x4_2 ++ [(⟨x11_1, x16_2, Arr.vrd (Arr.vrow 16 a0_0 x11_1) x16_2⟩ : S65)]) := ⟨_, rfl⟩
                        replace H : (impl_sums_debts.l1 k2 y194 x11_1 x11_1 (wrap64 (x16_2 + 1)) a0_0 (Arr.vrow 16 a0_0 x11_1)) = some (r1, r2) := by first | (rw [hy194]; with_reducible exact H) | (have H2_ := (Option.bind_some _ _).symm.trans H; rw [hy194]; with_reducible exact H2_) | (have H2_ := (Option.bind_some _ _).symm.trans H; with_reducible exact H2_) | with_reducible exact H | (rw [hy194]; exact H) | exact H
                        have Ny194 := Aside0.mk hy194
                        clear hy194
                        have H' := Aside0.mk H
                        clear H
                        have hx15 := fun W_ => Arr.index_arr (P := Try.prog) (w := W_) Try.underlying61 Try.underlying2 (by kernel_rfl) (by kernel_rfl) (Arr.vrow 16 a0_0 x11_1) x16_2 .i64 (of_decide_eq_true (by first | (with_reducible assumption) | assumption)) (of_decide_eq_true (by first | (with_reducible assumption) | assumption))
                        have p15 : 0 ≤ (x16_2 : Int) := of_decide_eq_true (by first | (with_reducible assumption) | assumption)
                        have q15 : (x16_2 : Int) < 16 := of_decide_eq_true (by first | (with_reducible assumption) | assumption)
                        replace p15 := eq_true p15
                        replace q15 := eq_true q15
                        go_wp2_with (first | ((with_reducible refine gate_builtin (b := .append) (xs := #[.tmp 24, .tmp 29]) rfl ?_); at_builtin; refine Kd.R_append k65 (w0 := w) w.heap.size rfl (.tmp 24) (.tmp 29) 26 65 (.agg #[(.int .i64 0), (.int .i64 0), (.int .i64 0)]) 24 rfl Try.underlying26 info65 rfl (by decide) (by omega) u4 x4_2 (⟨x11_1, x16_2, Arr.vrd (Arr.vrow 16 a0_0 x11_1) x16_2⟩ : S65) [.int .i64 x11_1, .int .i64 x16_2, .int .i64 (Arr.vrd (Arr.vrow 16 a0_0 x11_1) x16_2)] (fun _ => True) (fun _ => False) rfl rfl ?aP (fun _ hk => hk.elim) ?aF ?aO ?aB ?aS ?aL ?_; (case aP => exact k65_mkM _ _ _ (⟨x11_1, x16_2, Arr.vrd (Arr.vrow 16 a0_0 x11_1) x16_2⟩ : S65)); (case aB => exact (by repeat (first | (with_reducible first | exact HB.out | apply below_alloc | apply pw_below_drewN | apply below_drew1 | refine below_set ?_ GE189.out | refine below_set ?_ GE193.out) | exact HB.out))); (case aF => exact (fun _ _ => trivial)); (case aO => exact (by (with_reducible repeat (first | apply Kd.R_alloc | apply Kd.R_drewN | apply Kd.R_drew)); exact HO_4.out)); (case aS => exact (below_size (by repeat (first | (with_reducible first | exact HB.out | apply below_alloc | apply pw_below_drewN | apply below_drew1 | refine below_set ?_ GE189.out | refine below_set ?_ GE193.out) | exact HB.out)))); (case aL => have := LMc18.out; omega); intro v195 w19 ho hb hg hat; rw [← Ny194.out] at ho; have n0_ := Aside0.mk (blk_grown (g := gb189) (o := .cells (⟨Arr.arL .i64 a0_0⟩ : Array Value) 70 (0, 0)) (by (with_reducible repeat (first | refine blk_drewN ?_ _ | refine blk_drew ?_ | refine blk_alloc ?_ _)); exact BK189.out) hg (Kd.R_ne HO_4.out BK189.out (by decide))); have n1_ := Aside0.mk (blk_grown (g := gb193) (o := .cells (⟨Arr.arL .i64 (Arr.vrow 16 a0_0 x11_1)⟩ : Array Value) 61 (0, 0)) (by (with_reducible repeat (first | refine blk_drewN ?_ _ | refine blk_drew ?_ | refine blk_alloc ?_ _)); exact BK193.out) hg (Kd.R_ne HO_4.out BK193.out (by decide))); have n2_ := Aside0.mk (hb); have n3_ := Aside0.mk (ho); clear BK189; clear BK193; clear HB; clear HO_4; have BK189 := n0_; have BK193 := n1_; have HB := n2_; have HO196 := n3_; clear n0_ n1_ n2_ n3_; clear ho hb hg hat))
                        go_roundg k2
                        case measure => have := HK1.out; have := HK2.out; omega
                        case rel => exact ⟨(y194), (wrap64 (x16_2 + 1)), (by first | rfl | (simp; done) | (simp [*]; done)), H', ⟨by have := HK1.out; have := HK2.out; omega⟩, ⟨by (with_reducible repeat (first | apply Kd.R_alloc | apply Kd.R_drewN | apply Kd.R_drew)); exact HO196.out⟩, ⟨by (with_reducible repeat (first | refine blk_drewN ?_ _ | refine blk_drew ?_ | refine blk_alloc ?_ _)); exact BK189.out⟩, ⟨by (with_reducible repeat (first | refine blk_drewN ?_ _ | refine blk_drew ?_ | refine blk_alloc ?_ _)); exact BK193.out⟩, ⟨by repeat (first | (with_reducible first | exact HB.out | apply below_alloc | apply pw_below_drewN | apply below_drew1 | refine below_set ?_ GE189.out | refine below_set ?_ GE193.out) | exact HB.out)⟩⟩
                      · rw [if_neg c18] at H
                        exact absurd H (by simp)
                    · rw [if_neg c17] at H
                      have c17b0 : decide (0 < (Arr.vrd (Arr.vrow 16 a0_0 x11_1) x16_2)) = false := decide_eq_false c17
                      clear c17
                      have H' := Aside0.mk H
                      clear H
                      have hx15 := fun W_ => Arr.index_arr (P := Try.prog) (w := W_) Try.underlying61 Try.underlying2 (by kernel_rfl) (by kernel_rfl) (Arr.vrow 16 a0_0 x11_1) x16_2 .i64 (of_decide_eq_true (by first | (with_reducible assumption) | assumption)) (of_decide_eq_true (by first | (with_reducible assumption) | assumption))
                      have p15 : 0 ≤ (x16_2 : Int) := of_decide_eq_true (by first | (with_reducible assumption) | assumption)
                      have q15 : (x16_2 : Int) < 16 := of_decide_eq_true (by first | (with_reducible assumption) | assumption)
                      replace p15 := eq_true p15
                      replace q15 := eq_true q15
                      go_wp2
                      go_roundg k2
                      case measure => have := HK1.out; have := HK2.out; omega
                      case rel => exact ⟨(x4_2), (wrap64 (x16_2 + 1)), (by first | rfl | (simp; done) | (simp [*]; done)), H', ⟨by have := HK1.out; have := HK2.out; omega⟩, ⟨by (with_reducible repeat (first | apply Kd.R_alloc | apply Kd.R_drewN | apply Kd.R_drew)); exact HO_4.out⟩, ⟨by (with_reducible repeat (first | refine blk_drewN ?_ _ | refine blk_drew ?_ | refine blk_alloc ?_ _)); exact BK189.out⟩, ⟨by (with_reducible repeat (first | refine blk_drewN ?_ _ | refine blk_drew ?_ | refine blk_alloc ?_ _)); exact BK193.out⟩, ⟨by repeat (first | (with_reducible first | exact HB.out | apply below_alloc | apply pw_below_drewN | apply below_drew1 | refine below_set ?_ GE189.out | refine below_set ?_ GE193.out) | exact HB.out)⟩⟩
                · rw [if_neg c14] at H
                  exact absurd H (by simp)
              · rw [if_neg c13] at H
                have c13b0 : decide (x16_2 < 16) = false := decide_eq_false c13
                clear c13
                have H' := Aside0.mk H
                clear H
                go_wp2
                go_roundg k2
                case measure => have := HK1.out; have := HK2.out; omega
                case rel => exact ⟨(x4_2), (wrap64 (x11_1 + 1)), (by first | rfl | (simp; done) | (simp [*]; done)), H', ⟨by have := HK1.out; have := HK2.out; omega⟩, ⟨by (with_reducible repeat (first | apply Kd.R_alloc | apply Kd.R_drewN | apply Kd.R_drew)); exact HO_4.out⟩, ⟨by (with_reducible repeat (first | refine blk_drewN ?_ _ | refine blk_drew ?_ | refine blk_alloc ?_ _)); exact BK189.out⟩, ⟨by repeat (first | (with_reducible first | exact HB.out | apply below_alloc | apply pw_below_drewN | apply below_drew1 | refine below_set ?_ GE189.out | refine below_set ?_ GE193.out) | exact HB.out)⟩⟩
        · rw [if_neg c7] at H
          exact absurd H (by simp)
      · rw [if_neg c6] at H
        have c6b0 : decide (x11_1 < 16) = false := decide_eq_false c6
        clear c6
        by_cases c20 : (x4_1.length : Int) > 60
        · rw [if_pos c20] at H
          have c20b0 : decide (60 < (x4_1.length : Int)) = true := decide_eq_true c20
          have c20b1 : decide (60 < x4_1.length) = true := decide_eq_true (by omega)
          clear c20
          simp only [Option.some.injEq, Prod.mk.injEq] at H
          obtain ⟨rfl, rfl⟩ := H
          obtain ⟨Ao21, co21, eo21⟩ := Kd.R_slice HO_4.out
          subst eo21
          go_wp2
          go_ret2
          exact ⟨_, by first | rfl | (simp [errW_none, errW_some] <;> rfl) | (simp [*, errW_none, errW_some] <;> rfl), by first | exact Kd.R_nil _ _ _ _ _ | exact Kd.N_nil _ _ _ _ _ | exact Kd.V_nil _ _ _ _ _ | exact Kd.Q_nil _ _ _ _ _ | exact Kd.S_nil _ _ _ _ _, by repeat (first | (with_reducible first | exact HB.out | apply below_alloc | apply pw_below_drewN | apply below_drew1 | refine below_set ?_ GE189.out) | exact HB.out)⟩
        · rw [if_neg c20] at H
          have c20b0 : decide (60 < (x4_1.length : Int)) = false := decide_eq_false c20
          have c20b1 : decide (60 < x4_1.length) = false := decide_eq_false (by omega)
          clear c20
          simp only [Option.some.injEq, Prod.mk.injEq] at H
          obtain ⟨rfl, rfl⟩ := H
          obtain ⟨Ao22, co22, eo22⟩ := Kd.R_slice HO_4.out
          subst eo22
          go_wp2
          go_ret2
          exact ⟨_, by first | rfl | (simp [errW_none, errW_some] <;> rfl) | (simp [*, errW_none, errW_some] <;> rfl), by (with_reducible repeat (first | apply Kd.R_alloc | apply Kd.R_drewN | apply Kd.R_drew)); exact HO_4.out, by repeat (first | (with_reducible first | exact HB.out | apply below_alloc | apply pw_below_drewN | apply below_drew1 | refine below_set ?_ GE189.out) | exact HB.out)⟩

end Go.Proofs.Ytofcgkcpkngocaa.MPassDebt
