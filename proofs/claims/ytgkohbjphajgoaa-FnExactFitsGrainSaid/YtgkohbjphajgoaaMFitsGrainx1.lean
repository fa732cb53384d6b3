-- by a program of this session, for this claim
import Derived.Test.YtgkohbjphajgoaaMFitsGrainx0
namespace Go.Proofs.Ytgkohbjphajgoaa.MFitsGrain
open Go.RowKit Go.Proofs.YtgkohbjphajgoaaW.PrintWords Go.Proofs.YtgkohbjphajgoaaW.PrintLast Go.Proofs.YtgkohbjphajgoaaW.PrintMore
attribute [local go_sem] max2_int min2_int max_two min_two max_three min_three max_four min_four   -- for this text's walks alone
set_option linter.unusedVariables false
set_option linter.unusedSimpArgs false

/-! ### laws_toGrain: function 16 -/
def laws_toGrain.l0 : Nat → Int → Vector Int 16 → Vector Int 16 → Option (Vector Int 16)
  | 0, _, _, _ => none
  | k + 1, x4, x102000, x104000 => if x4 < 16 then (if 0 ≤ x4 then (laws_toGrain.l0 k (wrap64 (x4 + 1)) x102000 (Arr.vst x104000 x4 (Arr.vrd x102000 x4))) else (none)) else (some x104000)
def laws_toGrain.f (k : Nat) (a0_0 : Vector Int 16) : Option (Vector Int 16) := laws_toGrain.l0 k 0 a0_0 (Vector.replicate 16 0 : Vector Int 16)
theorem laws_toGrain.mono_l : ∀ k, (∀ y0 y1 y2, LeO (laws_toGrain.l0 k y0 y1 y2) (laws_toGrain.l0 (k + 1) y0 y1 y2))
  | 0 => fun _ _ _ r h => by simp [laws_toGrain.l0] at h
  | k + 1 => by
    have ih0 := laws_toGrain.mono_l k
    · intro y0 y1 y2
      unfold laws_toGrain.l0
      repeat' first
      | (with_reducible exact ih0 _ _ _)
      | (with_reducible exact LeO.refl _)
      | (with_reducible exact LeO.none _)
      | (with_reducible refine LeO.ite ?_ ?_)
      | (with_reducible refine LeO.bind ?_ (fun _ => ?_))
      | exact ih0 _ _ _
      | exact LeO.none _
      | refine LeO.ite ?_ ?_
      | refine LeO.bind ?_ (fun _ => ?_)
theorem laws_toGrain.mono : ∀ a0 k, LeO (laws_toGrain.f k a0) (laws_toGrain.f (k + 1) a0) := by
  intro a0 k
  have ih0 := laws_toGrain.mono_l k
  unfold laws_toGrain.f
  repeat' first
      | (with_reducible exact ih0 _ _ _)
      | (with_reducible exact LeO.refl _)
      | (with_reducible exact LeO.none _)
      | (with_reducible refine LeO.ite ?_ ?_)
      | (with_reducible refine LeO.bind ?_ (fun _ => ?_))
      | exact ih0 _ _ _
      | exact LeO.none _
      | refine LeO.ite ?_ ?_
      | refine LeO.bind ?_ (fun _ => ?_)
set_option maxHeartbeats 8000000 in
set_option maxRecDepth 100000 in
theorem laws_toGrain.calls (k : Nat) (a0_0 : Vector Int 16) (r : Vector Int 16) (w : World) (h : laws_toGrain.f k a0_0 = some r) :
    Calls Try.prog 16 #[.agg (⟨Arr.arL .i8 a0_0⟩ : Array Value)] w fun e w' => e = .returned (.agg (⟨Arr.arL .i8 r⟩ : Array Value)) ∧ Below w.heap.size w w' := by
  have hu23 := Try.underlying23
  have hu25 := Try.underlying25
  have HB := Aside0.mk (Below.refl w.heap.size w)
  have H : (laws_toGrain.l0 k 0 a0_0 (Vector.replicate 16 0 : Vector Int 16)) = some r := h
  clear h
  have H' := Aside0.mk H
  clear H
  go_enter Try.func16, Try.ntmps16
  go_wp2_with (first | ((with_reducible refine gate_dst (N := 1) rfl ?_); refine box_event ?hg (N := 1) ?hd (cs := (⟨Arr.arL .i8 a0_0⟩ : Array Value)) (t := 23) ?hr ?_; (case hd => rfl); (case hg => rfl); (case hr => first | (go_simp; done) | (go_simp; rfl)); intro gb101 hg w2 hbox hb; have n0_ := Aside0.mk (below_step (by repeat (first | (with_reducible first | exact HB.out | apply below_alloc | apply pw_below_drewN | apply below_drew1) | exact HB.out)) hb); have n1_ := Aside0.mk (hbox); have n2_ := Aside0.mk ((by rw [hg]; exact (below_size (by repeat (first | (with_reducible first | exact HB.out | apply below_alloc | apply pw_below_drewN | apply below_drew1) | exact HB.out))) : w.heap.size ≤ gb101)); have n3_ := Aside0.mk ((by rw [hg]; exact (below_size (by repeat (first | (with_reducible first | exact HB.out | apply below_alloc | apply pw_below_drewN | apply below_drew1) | exact HB.out))) : w.heap.size ≤ gb101)); clear HB; have HB := n0_; have BK101 := n1_; have GW101 := n2_; have GE101 := n3_; clear n0_ n1_ n2_ n3_; clear hb hbox hg) | ((with_reducible refine gate_dst (N := 2) rfl ?_); refine box_event ?hg (N := 2) ?hd (cs := (⟨Arr.arL .i8 (Vector.replicate 16 0 : Vector Int 16)⟩ : Array Value)) (t := 25) ?hr ?_; (case hd => rfl); (case hg => rfl); (case hr => first | (go_simp; done) | (go_simp; rfl)); intro gb102 hg w3 hbox hb; have n0_ := Aside0.mk (blk_below (g := gb101) (o := .cells (⟨Arr.arL .i8 a0_0⟩ : Array Value) 23 (0, 0)) (by (with_reducible repeat (first | refine blk_drewN ?_ _ | refine blk_drew ?_ | refine blk_alloc ?_ _)); exact BK101.out) hb); have n1_ := Aside0.mk (below_step (by repeat (first | (with_reducible first | exact HB.out | apply below_alloc | apply pw_below_drewN | apply below_drew1 | refine below_set ?_ GE101.out) | exact HB.out)) hb); have n2_ := Aside0.mk (hbox); have n3_ := Aside0.mk ((by rw [hg]; exact (below_size (by repeat (first | (with_reducible first | exact HB.out | apply below_alloc | apply pw_below_drewN | apply below_drew1 | refine below_set ?_ GE101.out) | exact HB.out))) : w.heap.size ≤ gb102)); have n4_ := Aside0.mk ((by rw [hg]; exact (below_size (by repeat (first | (with_reducible first | exact HB.out | apply below_alloc | apply pw_below_drewN | apply below_drew1 | refine below_set ?_ GE101.out) | exact HB.out))) : w.heap.size ≤ gb102)); have n5_ := Aside0.mk ((by rw [hg]; exact Nat.ne_of_lt (blk_lt (g := gb101) (o := .cells (⟨Arr.arL .i8 a0_0⟩ : Array Value) 23 (0, 0)) (by (with_reducible repeat (first | refine blk_drewN ?_ _ | refine blk_drew ?_ | refine blk_alloc ?_ _)); exact BK101.out)) : gb101 ≠ gb102)); have n6_ := Aside0.mk ((by rw [hg]; exact Nat.ne_of_gt (blk_lt (g := gb101) (o := .cells (⟨Arr.arL .i8 a0_0⟩ : Array Value) 23 (0, 0)) (by (with_reducible repeat (first | refine blk_drewN ?_ _ | refine blk_drew ?_ | refine blk_alloc ?_ _)); exact BK101.out)) : gb102 ≠ gb101)); clear BK101; clear HB; have BK101 := n0_; have HB := n1_; have BK102 := n2_; have GW102 := n3_; have GE102 := n4_; have NB101_102 := n5_; have NB102_101 := n6_; clear n0_ n1_ n2_ n3_ n4_ n5_ n6_; clear hb hbox hg) | ((with_reducible refine gate_dst (N := 3) rfl ?_); refine box_event ?hg (N := 3) ?hd (cs := (⟨Arr.arL .i8 (Vector.replicate 16 0 : Vector Int 16)⟩ : Array Value)) (t := 25) ?hr ?_; (case hd => rfl); (case hg => rfl); (case hr => first | (go_simp; done) | (go_simp; rfl)); intro gb103 hg w4 hbox hb; have n0_ := Aside0.mk (blk_below (g := gb101) (o := .cells (⟨Arr.arL .i8 a0_0⟩ : Array Value) 23 (0, 0)) (by (with_reducible repeat (first | refine blk_drewN ?_ _ | refine blk_drew ?_ | refine blk_alloc ?_ _)); exact BK101.out) hb); have n1_ := Aside0.mk (blk_below (g := gb102) (o := .cells (⟨Arr.arL .i8 (Vector.replicate 16 0 : Vector Int 16)⟩ : Array Value) 25 (0, 0)) (by (with_reducible repeat (first | refine blk_drewN ?_ _ | refine blk_drew ?_ | refine blk_alloc ?_ _)); exact BK102.out) hb); have n2_ := Aside0.mk (below_step (by repeat (first | (with_reducible first | exact HB.out | apply below_alloc | apply pw_below_drewN | apply below_drew1 | refine below_set ?_ GE101.out | refine below_set ?_ GE102.out) | exact HB.out)) hb); have n3_ := Aside0.mk (hbox); have n4_ := Aside0.mk ((by rw [hg]; exact (below_size (by repeat (first | (with_reducible first | exact HB.out | apply below_alloc | apply pw_below_drewN | apply below_drew1 | refine below_set ?_ GE101.out | refine below_set ?_ GE102.out) | exact HB.out))) : w.heap.size ≤ gb103)); have n5_ := Aside0.mk ((by rw [hg]; exact (below_size (by repeat (first | (with_reducible first | exact HB.out | apply below_alloc | apply pw_below_drewN | apply below_drew1 | refine below_set ?_ GE101.out | refine below_set ?_ GE102.out) | exact HB.out))) : w.heap.size ≤ gb103)); have n6_ := Aside0.mk ((by rw [hg]; exact Nat.ne_of_lt (blk_lt (g := gb101) (o := .cells (⟨Arr.arL .i8 a0_0⟩ : Array Value) 23 (0, 0)) (by (with_reducible repeat (first | refine blk_drewN ?_ _ | refine blk_drew ?_ | refine blk_alloc ?_ _)); exact BK101.out)) : gb101 ≠ gb103)); have n7_ := Aside0.mk ((by rw [hg]; exact Nat.ne_of_gt (blk_lt (g := gb101) (o := .cells (⟨Arr.arL .i8 a0_0⟩ : Array Value) 23 (0, 0)) (by (with_reducible repeat (first | refine blk_drewN ?_ _ | refine blk_drew ?_ | refine blk_alloc ?_ _)); exact BK101.out)) : gb103 ≠ gb101)); have n8_ := Aside0.mk ((by rw [hg]; exact Nat.ne_of_lt (blk_lt (g := gb102) (o := .cells (⟨Arr.arL .i8 (Vector.replicate 16 0 : Vector Int 16)⟩ : Array Value) 25 (0, 0)) (by (with_reducible repeat (first | refine blk_drewN ?_ _ | refine blk_drew ?_ | refine blk_alloc ?_ _)); exact BK102.out)) : gb102 ≠ gb103)); have n9_ := Aside0.mk ((by rw [hg]; exact Nat.ne_of_gt (blk_lt (g := gb102) (o := .cells (⟨Arr.arL .i8 (Vector.replicate 16 0 : Vector Int 16)⟩ : Array Value) 25 (0, 0)) (by (with_reducible repeat (first | refine blk_drewN ?_ _ | refine blk_drew ?_ | refine blk_alloc ?_ _)); exact BK102.out)) : gb103 ≠ gb102)); clear BK101; clear BK102; clear HB; have BK101 := n0_; have BK102 := n1_; have HB := n2_; have BK103 := n3_; have GW103 := n4_; have GE103 := n5_; have NB101_103 := n6_; have NB103_101 := n7_; have NB102_103 := n8_; have NB103_102 := n9_; clear n0_ n1_ n2_ n3_ n4_ n5_ n6_ n7_ n8_ n9_; clear hb hbox hg))
  go_loopg [4] k (fun kq v4 w' => ∃ (x4_1 : Int) (x104000_1 : Vector Int 16), v4 = .int .i64 x4_1 ∧ Aside0 (laws_toGrain.l0 kq x4_1 a0_0 x104000_1 = some r) ∧ Aside0 (kq ≤ k) ∧ Aside0 (w'.heap[gb101]? = some (.cells (⟨Arr.arL .i8 a0_0⟩ : Array Value) 23 (0, 0))) ∧ Aside0 (w'.heap[gb102]? = some (.cells (⟨Arr.arL .i8 (Vector.replicate 16 0 : Vector Int 16)⟩ : Array Value) 25 (0, 0))) ∧ Aside0 (w'.heap[gb103]? = some (.cells (⟨Arr.arL .i8 x104000_1⟩ : Array Value) 25 (0, 0))) ∧ Aside0 (Below w.heap.size w w'))
  case atStart => exact ⟨(0), ((Vector.replicate 16 0 : Vector Int 16)), (by first | rfl | (simp; done) | (simp [*]; done)), H', ⟨Nat.le_refl _⟩, ⟨by (with_reducible repeat (first | refine blk_drewN ?_ _ | refine blk_drew ?_ | refine blk_alloc ?_ _)); exact BK101.out⟩, ⟨by (with_reducible repeat (first | refine blk_drewN ?_ _ | refine blk_drew ?_ | refine blk_alloc ?_ _)); exact BK102.out⟩, ⟨by (with_reducible repeat (first | refine blk_drewN ?_ _ | refine blk_drew ?_ | refine blk_alloc ?_ _)); exact BK103.out⟩, ⟨by repeat (first | (with_reducible first | exact HB.out | apply below_alloc | apply pw_below_drewN | apply below_drew1 | refine below_set ?_ GE101.out | refine below_set ?_ GE102.out | refine below_set ?_ GE103.out) | exact HB.out)⟩⟩
  case round =>
    clear H'
    try clear c1
    try clear p2
    obtain ⟨x4_1, x104000_1, rfl, HA, HK1, BK101, BK102, BK103, HB⟩ := hrel
    cases gk with
    | zero => exact absurd HA.out (by simp [laws_toGrain.l0])
    | succ k1 =>
      have H := HA.out
      clear HA
      simp only [laws_toGrain.l0] at H
      by_cases c5 : x4_1 < 16
      · rw [if_pos c5] at H
        have c5b0 : decide (x4_1 < 16) = true := decide_eq_true c5
        clear c5
        by_cases c6 : 0 ≤ x4_1
        · rw [if_pos c6] at H
          have c6b0 : decide (0 ≤ x4_1) = true := decide_eq_true c6
          clear c6
          obtain ⟨y104, hy104⟩ : ∃ y_ : Vector Int 16, y_ = (Arr.vst x104000_1 x4_1 (Arr.vrd a0_0 x4_1)) := ⟨_, rfl⟩
          replace H : (laws_toGrain.l0 k1 (wrap64 (x4_1 + 1)) a0_0 y104) = some r := by first | (rw [hy104]; with_reducible exact H) | (have H2_ := (Option.bind_some _ _).symm.trans H; rw [hy104]; with_reducible exact H2_) | (have H2_ := (Option.bind_some _ _).symm.trans H; with_reducible exact H2_) | with_reducible exact H | (rw [hy104]; exact H) | exact H
          have Ny104 := Aside0.mk hy104
          clear hy104
          have H' := Aside0.mk H
          clear H
          have p7 : 0 ≤ (x4_1 : Int) := of_decide_eq_true (by first | (with_reducible assumption) | assumption)
          have q7 : (x4_1 : Int) < 16 := of_decide_eq_true (by first | (with_reducible assumption) | assumption)
          replace p7 := eq_true p7
          replace q7 := eq_true q7
          have hx8 : wr.cell? ⟨gb101, x4_1.toNat, none⟩ = some (.int .i8 (Arr.vrd a0_0 x4_1)) := Arr.cellN (off := 0) (l := (Arr.arL .i8 a0_0)) (show wr.heap[gb101]? = some (.cells (⟨Arr.arL .i8 a0_0⟩ : Array Value) 23 (0, 0)) from by (with_reducible repeat (first | refine blk_drewN ?_ _ | refine blk_drew ?_ | refine blk_alloc ?_ _)); exact BK101.out) rfl (x4_1.toNat) (x4_1.toNat) (by omega) (by have a0_ := of_eq_true p7; have b0_ := of_eq_true q7; omega)
          have hf8 := blk_frozen (show wr.heap[gb101]? = some (.cells (⟨Arr.arL .i8 a0_0⟩ : Array Value) 23 (0, 0)) from by (with_reducible repeat (first | refine blk_drewN ?_ _ | refine blk_drew ?_ | refine blk_alloc ?_ _)); exact BK101.out) (x4_1.toNat)
          have p9 : 0 ≤ (x4_1 : Int) := of_decide_eq_true (by first | (with_reducible assumption) | assumption)
          have q9 : (x4_1 : Int) < 16 := of_decide_eq_true (by first | (with_reducible assumption) | assumption)
          replace p9 := eq_true p9
          replace q9 := eq_true q9
          go_wp2_with (first | ((with_reducible refine gate_store (t := 22) (p := 13) rfl ?_); have hx10 : wr.cell? ⟨gb103, x4_1.toNat, none⟩ = some (.int .i8 (Arr.vrd x104000_1 x4_1)) := Arr.cellN (off := 0) (l := (Arr.arL .i8 x104000_1)) (show wr.heap[gb103]? = some (.cells (⟨Arr.arL .i8 x104000_1⟩ : Array Value) 25 (0, 0)) from by (with_reducible repeat (first | refine blk_drewN ?_ _ | refine blk_drew ?_ | refine blk_alloc ?_ _)); exact BK103.out) rfl (x4_1.toNat) (x4_1.toNat) (by omega) (by have a0_ := of_eq_true p9; have b0_ := of_eq_true q9; omega); have hf10 := blk_frozen (show wr.heap[gb103]? = some (.cells (⟨Arr.arL .i8 x104000_1⟩ : Array Value) 25 (0, 0)) from by (with_reducible repeat (first | refine blk_drewN ?_ _ | refine blk_drew ?_ | refine blk_alloc ?_ _)); exact BK103.out) (x4_1.toNat); refine Arr.putN ?hg (T := 22) (p := 13) (v := ?vo_w11) ?ho ?hn (g := gb103) (off := 0) (m := x4_1.toNat) (n := x4_1.toNat) (k := .i8) (y := (Arr.vrd a0_0 x4_1)) (x := x104000_1) (t := 25) (pre := []) (show wr.heap[gb103]? = some (.cells (⟨Arr.arL .i8 x104000_1⟩ : Array Value) 25 (0, 0)) from by (with_reducible repeat (first | refine blk_drewN ?_ _ | refine blk_drew ?_ | refine blk_alloc ?_ _)); exact BK103.out) ?hp (by omega) ?hr ?_; (case ho => rfl); (case hg => rfl); (case hn => rfl); (case hp => rfl); (case hr => first | (go_simp; done) | (go_simp; rfl)); intro w11 hbx hg hbe; replace hbx : w11.heap[gb103]? = some (.cells (⟨Arr.arL .i8 y104⟩ : Array Value) 25 (0, 0)) := (by rw [Ny104.out]; exact hbx); have n0_ := Aside0.mk (blk_grown (g := gb101) (o := .cells (⟨Arr.arL .i8 a0_0⟩ : Array Value) 23 (0, 0)) (by (with_reducible repeat (first | refine blk_drewN ?_ _ | refine blk_drew ?_ | refine blk_alloc ?_ _)); exact BK101.out) hg (fun e_ => NB101_103.out (Option.some.inj e_))); have n1_ := Aside0.mk (blk_grown (g := gb102) (o := .cells (⟨Arr.arL .i8 (Vector.replicate 16 0 : Vector Int 16)⟩ : Array Value) 25 (0, 0)) (by (with_reducible repeat (first | refine blk_drewN ?_ _ | refine blk_drew ?_ | refine blk_alloc ?_ _)); exact BK102.out) hg (fun e_ => NB102_103.out (Option.some.inj e_))); have n2_ := Aside0.mk (hbx); have n3_ := Aside0.mk (hbe _ _ (by repeat (first | (with_reducible first | exact HB.out | apply below_alloc | apply pw_below_drewN | apply below_drew1 | refine below_set ?_ GE101.out | refine below_set ?_ GE102.out | refine below_set ?_ GE103.out) | exact HB.out)) GE103.out); clear BK101; clear BK102; clear BK103; clear HB; have BK101 := n0_; have BK102 := n1_; have BK103 := n2_; have HB := n3_; clear n0_ n1_ n2_ n3_; (try clear hbx hg hbe)))
          go_roundg k1
          case measure => have := HK1.out; omega
          case rel => exact ⟨(wrap64 (x4_1 + 1)), (y104), (by first | rfl | (simp; done) | (simp [*]; done)), H', ⟨by have := HK1.out; omega⟩, ⟨by (with_reducible repeat (first | refine blk_drewN ?_ _ | refine blk_drew ?_ | refine blk_alloc ?_ _)); exact BK101.out⟩, ⟨by (with_reducible repeat (first | refine blk_drewN ?_ _ | refine blk_drew ?_ | refine blk_alloc ?_ _)); exact BK102.out⟩, ⟨by (with_reducible repeat (first | refine blk_drewN ?_ _ | refine blk_drew ?_ | refine blk_alloc ?_ _)); exact BK103.out⟩, ⟨by repeat (first | (with_reducible first | exact HB.out | apply below_alloc | apply pw_below_drewN | apply below_drew1 | refine below_set ?_ GE101.out | refine below_set ?_ GE102.out | refine below_set ?_ GE103.out) | exact HB.out)⟩⟩
        · rw [if_neg c6] at H
          exact absurd H (by simp)
      · rw [if_neg c5] at H
        have c5b0 : decide (x4_1 < 16) = false := decide_eq_false c5
        clear c5
        obtain rfl := Option.some.inj H
        go_wp2_with (first | ((with_reducible refine Arr.gate_load (t := 25) (p := 3) rfl ?_); (try (refine gate_guard (by rfl) ?_; dsimp only)); refine Arr.loadA ?hg (T := 25) (p := 3) ?ho (g := gb103) (off := 0) ?hx (t := 25) (l := (Arr.arL .i8 x104000_1)) (m := (Arr.arL .i8 x104000_1)) (fr := (0, 0)) (show wr.heap[gb103]? = some (.cells (⟨Arr.arL .i8 x104000_1⟩ : Array Value) 25 (0, 0)) from by (with_reducible repeat (first | refine blk_drewN ?_ _ | refine blk_drew ?_ | refine blk_alloc ?_ _)); exact BK103.out) rfl Try.underlying25 rfl (n := 16) (by kernel_rfl) (by simp [Arr.arL_length]) ?_; (case hg => rfl); (case ho => rfl); (case hx => first | rfl | (go_simp; done) | (go_simp; rfl))) | ((with_reducible refine gate_store (t := 25) (p := 2) rfl ?_); refine Arr.storeA ?hg (T := 25) (p := 2) (v := ?vo_w14) ?ho ?hn (g := gb102) (off := 0) ?hx (m := (Arr.arL .i8 x104000_1)) ?hy (t := 25) (pre := []) (old := (Arr.arL .i8 (Vector.replicate 16 0 : Vector Int 16))) (show wr.heap[gb102]? = some (.cells (⟨Arr.arL .i8 (Vector.replicate 16 0 : Vector Int 16)⟩ : Array Value) 25 (0, 0)) from by (with_reducible repeat (first | refine blk_drewN ?_ _ | refine blk_drew ?_ | refine blk_alloc ?_ _)); exact BK102.out) rfl (by simp [Arr.arL_length]) (n := 16) (by kernel_rfl) (by simp [Arr.arL_length]) (Arr.ones_0 ) ?_; (case ho => rfl); (case hg => rfl); (case hn => rfl); (case hx => first | rfl | (go_simp; done) | (go_simp; rfl)); (case hy => first | rfl | (go_simp; done) | (go_simp; rfl)); intro w14 hbx hg hbe; replace hbx : w14.heap[gb102]? = some (.cells (⟨Arr.arL .i8 x104000_1⟩ : Array Value) 25 (0, 0)) := hbx; have n0_ := Aside0.mk (blk_grown (g := gb101) (o := .cells (⟨Arr.arL .i8 a0_0⟩ : Array Value) 23 (0, 0)) (by (with_reducible repeat (first | refine blk_drewN ?_ _ | refine blk_drew ?_ | refine blk_alloc ?_ _)); exact BK101.out) hg (fun e_ => NB101_102.out (Option.some.inj e_))); have n1_ := Aside0.mk (hbx); have n2_ := Aside0.mk (blk_grown (g := gb103) (o := .cells (⟨Arr.arL .i8 x104000_1⟩ : Array Value) 25 (0, 0)) (by (with_reducible repeat (first | refine blk_drewN ?_ _ | refine blk_drew ?_ | refine blk_alloc ?_ _)); exact BK103.out) hg (fun e_ => NB103_102.out (Option.some.inj e_))); have n3_ := Aside0.mk (hbe _ _ (by repeat (first | (with_reducible first | exact HB.out | apply below_alloc | apply pw_below_drewN | apply below_drew1 | refine below_set ?_ GE101.out | refine below_set ?_ GE102.out | refine below_set ?_ GE103.out) | exact HB.out)) GE102.out); clear BK101; clear BK102; clear BK103; clear HB; have BK101 := n0_; have BK102 := n1_; have BK103 := n2_; have HB := n3_; clear n0_ n1_ n2_ n3_; (try clear hbx hg hbe)))
        refine bodyPost_ret (results_cell_row rfl _ _ gb102 25 (⟨Arr.arL .i8 x104000_1⟩ : Array Value) (0, 0) _ rfl (by (with_reducible repeat (first | refine blk_drewN ?_ _ | refine blk_drew ?_ | refine blk_alloc ?_ _)); exact BK102.out) Try.underlying25 rfl (by rw [show (Try.prog.info? 25).map (·.size) = some 16 from by kernel_rfl]; simp [Arr.arL_length])) rfl ?_
        exact ⟨by first | rfl | (simp [errW_none, errW_some] <;> rfl) | (simp [*, errW_none, errW_some] <;> rfl), by repeat (first | (with_reducible first | exact HB.out | apply below_alloc | apply pw_below_drewN | apply below_drew1 | refine below_set ?_ GE101.out | refine below_set ?_ GE102.out | refine below_set ?_ GE103.out) | exact HB.out)⟩

/-! ### spec_l01Grain: function 48 -/
def spec_l01Grain.l0 : Nat → Int → Vector Int 16 → Option (Bool)
  | 0, _, _ => none
  | k + 1, x3, x106000 => if x3 < 16 then (if 0 ≤ x3 then (if (Arr.vrd x106000 x3) < (-3) then (some false) else (if (Arr.vrd x106000 x3) > 3 then (some false) else (spec_l01Grain.l0 k (wrap64 (x3 + 1)) x106000))) else (none)) else (some true)
def spec_l01Grain.f (k : Nat) (a0_0 : Vector Int 16) : Option (Bool) := spec_l01Grain.l0 k 0 a0_0
theorem spec_l01Grain.mono_l : ∀ k, (∀ y0 y1, LeO (spec_l01Grain.l0 k y0 y1) (spec_l01Grain.l0 (k + 1) y0 y1))
  | 0 => fun _ _ r h => by simp [spec_l01Grain.l0] at h
  | k + 1 => by
    have ih0 := spec_l01Grain.mono_l k
    · intro y0 y1
      unfold spec_l01Grain.l0
      repeat' first
      | (with_reducible exact ih0 _ _)
      | (with_reducible exact LeO.refl _)
      | (with_reducible exact LeO.none _)
      | (with_reducible refine LeO.ite ?_ ?_)
      | (with_reducible refine LeO.bind ?_ (fun _ => ?_))
      | exact ih0 _ _
      | exact LeO.none _
      | refine LeO.ite ?_ ?_
      | refine LeO.bind ?_ (fun _ => ?_)
theorem spec_l01Grain.mono : ∀ a0 k, LeO (spec_l01Grain.f k a0) (spec_l01Grain.f (k + 1) a0) := by
  intro a0 k
  have ih0 := spec_l01Grain.mono_l k
  unfold spec_l01Grain.f
  repeat' first
      | (with_reducible exact ih0 _ _)
      | (with_reducible exact LeO.refl _)
      | (with_reducible exact LeO.none _)
      | (with_reducible refine LeO.ite ?_ ?_)
      | (with_reducible refine LeO.bind ?_ (fun _ => ?_))
      | exact ih0 _ _
      | exact LeO.none _
      | refine LeO.ite ?_ ?_
      | refine LeO.bind ?_ (fun _ => ?_)
set_option maxHeartbeats 8000000 in
set_option maxRecDepth 100000 in
theorem spec_l01Grain.calls (k : Nat) (a0_0 : Vector Int 16) (r : Bool) (w : World) (h : spec_l01Grain.f k a0_0 = some r) :
    Calls Try.prog 48 #[.agg (⟨Arr.arL .i8 a0_0⟩ : Array Value)] w fun e w' => e = .returned (.bool r) ∧ Below w.heap.size w w' := by
  have hu25 := Try.underlying25
  have HB := Aside0.mk (Below.refl w.heap.size w)
  have H : (spec_l01Grain.l0 k 0 a0_0) = some r := h
  clear h
  have H' := Aside0.mk H
  clear H
  go_enter Try.func48, Try.ntmps48
  go_wp2_with (first | ((with_reducible refine gate_dst (N := 1) rfl ?_); refine box_event ?hg (N := 1) ?hd (cs := (⟨Arr.arL .i8 a0_0⟩ : Array Value)) (t := 25) ?hr ?_; (case hd => rfl); (case hg => rfl); (case hr => first | (go_simp; done) | (go_simp; rfl)); intro gb105 hg w2 hbox hb; have n0_ := Aside0.mk (below_step (by repeat (first | (with_reducible first | exact HB.out | apply below_alloc | apply pw_below_drewN | apply below_drew1) | exact HB.out)) hb); have n1_ := Aside0.mk (hbox); have n2_ := Aside0.mk ((by rw [hg]; exact (below_size (by repeat (first | (with_reducible first | exact HB.out | apply below_alloc | apply pw_below_drewN | apply below_drew1) | exact HB.out))) : w.heap.size ≤ gb105)); have n3_ := Aside0.mk ((by rw [hg]; exact (below_size (by repeat (first | (with_reducible first | exact HB.out | apply below_alloc | apply pw_below_drewN | apply below_drew1) | exact HB.out))) : w.heap.size ≤ gb105)); clear HB; have HB := n0_; have BK105 := n1_; have GW105 := n2_; have GE105 := n3_; clear n0_ n1_ n2_ n3_; clear hb hbox hg))
  go_loopg [3] k (fun kq v3 w' => ∃ (x3_1 : Int), v3 = .int .i64 x3_1 ∧ Aside0 (spec_l01Grain.l0 kq x3_1 a0_0 = some r) ∧ Aside0 (kq ≤ k) ∧ Aside0 (w'.heap[gb105]? = some (.cells (⟨Arr.arL .i8 a0_0⟩ : Array Value) 25 (0, 0))) ∧ Aside0 (Below w.heap.size w w'))
  case atStart => exact ⟨(0), (by first | rfl | (simp; done) | (simp [*]; done)), H', ⟨Nat.le_refl _⟩, ⟨by (with_reducible repeat (first | refine blk_drewN ?_ _ | refine blk_drew ?_ | refine blk_alloc ?_ _)); exact BK105.out⟩, ⟨by repeat (first | (with_reducible first | exact HB.out | apply below_alloc | apply pw_below_drewN | apply below_drew1 | refine below_set ?_ GE105.out) | exact HB.out)⟩⟩
  case round =>
    clear H'
    try clear p2
    obtain ⟨x3_1, rfl, HA, HK1, BK105, HB⟩ := hrel
    cases gk with
    | zero => exact absurd HA.out (by simp [spec_l01Grain.l0])
    | succ k1 =>
      have H := HA.out
      clear HA
      simp only [spec_l01Grain.l0] at H
      by_cases c3 : x3_1 < 16
      · rw [if_pos c3] at H
        have c3b0 : decide (x3_1 < 16) = true := decide_eq_true c3
        clear c3
        by_cases c4 : 0 ≤ x3_1
        · rw [if_pos c4] at H
          have c4b0 : decide (0 ≤ x3_1) = true := decide_eq_true c4
          clear c4
          by_cases c7 : (Arr.vrd a0_0 x3_1) < (-3)
          · rw [if_pos c7] at H
            have c7b0 : decide ((Arr.vrd a0_0 x3_1) < (-3)) = true := decide_eq_true c7
            clear c7
            obtain rfl := Option.some.inj H
            have p5 : 0 ≤ (x3_1 : Int) := of_decide_eq_true (by first | (with_reducible assumption) | assumption)
            have q5 : (x3_1 : Int) < 16 := of_decide_eq_true (by first | (with_reducible assumption) | assumption)
            replace p5 := eq_true p5
            replace q5 := eq_true q5
            have hx6 : wr.cell? ⟨gb105, x3_1.toNat, none⟩ = some (.int .i8 (Arr.vrd a0_0 x3_1)) := Arr.cellN (off := 0) (l := (Arr.arL .i8 a0_0)) (show wr.heap[gb105]? = some (.cells (⟨Arr.arL .i8 a0_0⟩ : Array Value) 25 (0, 0)) from by (with_reducible repeat (first | refine blk_drewN ?_ _ | refine blk_drew ?_ | refine blk_alloc ?_ _)); exact BK105.out) rfl (x3_1.toNat) (x3_1.toNat) (by omega) (by have a0_ := of_eq_true p5; have b0_ := of_eq_true q5; omega)
            have hf6 := blk_frozen (show wr.heap[gb105]? = some (.cells (⟨Arr.arL .i8 a0_0⟩ : Array Value) 25 (0, 0)) from by (with_reducible repeat (first | refine blk_drewN ?_ _ | refine blk_drew ?_ | refine blk_alloc ?_ _)); exact BK105.out) (x3_1.toNat)
            go_wp2
            go_ret
            exact ⟨by first | rfl | (simp [errW_none, errW_some] <;> rfl) | (simp [*, errW_none, errW_some] <;> rfl), by repeat (first | (with_reducible first | exact HB.out | apply below_alloc | apply pw_below_drewN | apply below_drew1 | refine below_set ?_ GE105.out) | exact HB.out)⟩
          · rw [if_neg c7] at H
            have c7b0 : decide ((Arr.vrd a0_0 x3_1) < (-3)) = false := decide_eq_false c7
            clear c7
            by_cases c10 : (Arr.vrd a0_0 x3_1) > 3
            · rw [if_pos c10] at H
              have c10b0 : decide (3 < (Arr.vrd a0_0 x3_1)) = true := decide_eq_true c10
              clear c10
              obtain rfl := Option.some.inj H
              have p5 : 0 ≤ (x3_1 : Int) := of_decide_eq_true (by first | (with_reducible assumption) | assumption)
              have q5 : (x3_1 : Int) < 16 := of_decide_eq_true (by first | (with_reducible assumption) | assumption)
              replace p5 := eq_true p5
              replace q5 := eq_true q5
              have hx6 : wr.cell? ⟨gb105, x3_1.toNat, none⟩ = some (.int .i8 (Arr.vrd a0_0 x3_1)) := Arr.cellN (off := 0) (l := (Arr.arL .i8 a0_0)) (show wr.heap[gb105]? = some (.cells (⟨Arr.arL .i8 a0_0⟩ : Array Value) 25 (0, 0)) from by (with_reducible repeat (first | refine blk_drewN ?_ _ | refine blk_drew ?_ | refine blk_alloc ?_ _)); exact BK105.out) rfl (x3_1.toNat) (x3_1.toNat) (by omega) (by have a0_ := of_eq_true p5; have b0_ := of_eq_true q5; omega)
              have hf6 := blk_frozen (show wr.heap[gb105]? = some (.cells (⟨Arr.arL .i8 a0_0⟩ : Array Value) 25 (0, 0)) from by (with_reducible repeat (first | refine blk_drewN ?_ _ | refine blk_drew ?_ | refine blk_alloc ?_ _)); exact BK105.out) (x3_1.toNat)
              have p8 : 0 ≤ (x3_1 : Int) := of_decide_eq_true (by first | (with_reducible assumption) | assumption)
              have q8 : (x3_1 : Int) < 16 := of_decide_eq_true (by first | (with_reducible assumption) | assumption)
              replace p8 := eq_true p8
              replace q8 := eq_true q8
              have hx9 : wr.cell? ⟨gb105, x3_1.toNat, none⟩ = some (.int .i8 (Arr.vrd a0_0 x3_1)) := Arr.cellN (off := 0) (l := (Arr.arL .i8 a0_0)) (show wr.heap[gb105]? = some (.cells (⟨Arr.arL .i8 a0_0⟩ : Array Value) 25 (0, 0)) from by (with_reducible repeat (first | refine blk_drewN ?_ _ | refine blk_drew ?_ | refine blk_alloc ?_ _)); exact BK105.out) rfl (x3_1.toNat) (x3_1.toNat) (by omega) (by have a0_ := of_eq_true p8; have b0_ := of_eq_true q8; omega)
              have hf9 := blk_frozen (show wr.heap[gb105]? = some (.cells (⟨Arr.arL .i8 a0_0⟩ : Array Value) 25 (0, 0)) from by (with_reducible repeat (first | refine blk_drewN ?_ _ | refine blk_drew ?_ | refine blk_alloc ?_ _)); exact BK105.out) (x3_1.toNat)
              go_wp2
              go_ret
              exact ⟨by first | rfl | (simp [errW_none, errW_some] <;> rfl) | (simp [*, errW_none, errW_some] <;> rfl), by repeat (first | (with_reducible first | exact HB.out | apply below_alloc | apply pw_below_drewN | apply below_drew1 | refine below_set ?_ GE105.out) | exact HB.out)⟩
            · rw [if_neg c10] at H
              have c10b0 : decide (3 < (Arr.vrd a0_0 x3_1)) = false := decide_eq_false c10
              clear c10
              have H' := Aside0.mk H
              clear H
              have p5 : 0 ≤ (x3_1 : Int) := of_decide_eq_true (by first | (with_reducible assumption) | assumption)
              have q5 : (x3_1 : Int) < 16 := of_decide_eq_true (by first | (with_reducible assumption) | assumption)
              replace p5 := eq_true p5
              replace q5 := eq_true q5
              have hx6 : wr.cell? ⟨gb105, x3_1.toNat, none⟩ = some (.int .i8 (Arr.vrd a0_0 x3_1)) := Arr.cellN (off := 0) (l := (Arr.arL .i8 a0_0)) (show wr.heap[gb105]? = some (.cells (⟨Arr.arL .i8 a0_0⟩ : Array Value) 25 (0, 0)) from by (with_reducible repeat (first | refine blk_drewN ?_ _ | refine blk_drew ?_ | refine blk_alloc ?_ _)); exact BK105.out) rfl (x3_1.toNat) (x3_1.toNat) (by omega) (by have a0_ := of_eq_true p5; have b0_ := of_eq_true q5; omega)
              have hf6 := blk_frozen (show wr.heap[gb105]? = some (.cells (⟨Arr.arL .i8 a0_0⟩ : Array Value) 25 (0, 0)) from by (with_reducible repeat (first | refine blk_drewN ?_ _ | refine blk_drew ?_ | refine blk_alloc ?_ _)); exact BK105.out) (x3_1.toNat)
              have p8 : 0 ≤ (x3_1 : Int) := of_decide_eq_true (by first | (with_reducible assumption) | assumption)
              have q8 : (x3_1 : Int) < 16 := of_decide_eq_true (by first | (with_reducible assumption) | assumption)
              replace p8 := eq_true p8
              replace q8 := eq_true q8
              have hx9 : wr.cell? ⟨gb105, x3_1.toNat, none⟩ = some (.int .i8 (Arr.vrd a0_0 x3_1)) := Arr.cellN (off := 0) (l := (Arr.arL .i8 a0_0)) (show wr.heap[gb105]? = some (.cells (⟨Arr.arL .i8 a0_0⟩ : Array Value) 25 (0, 0)) from by (with_reducible repeat (first | refine blk_drewN ?_ _ | refine blk_drew ?_ | refine blk_alloc ?_ _)); exact BK105.out) rfl (x3_1.toNat) (x3_1.toNat) (by omega) (by have a0_ := of_eq_true p8; have b0_ := of_eq_true q8; omega)
              have hf9 := blk_frozen (show wr.heap[gb105]? = some (.cells (⟨Arr.arL .i8 a0_0⟩ : Array Value) 25 (0, 0)) from by (with_reducible repeat (first | refine blk_drewN ?_ _ | refine blk_drew ?_ | refine blk_alloc ?_ _)); exact BK105.out) (x3_1.toNat)
              go_wp2
              go_roundg k1
              case measure => have := HK1.out; omega
              case rel => exact ⟨(wrap64 (x3_1 + 1)), (by first | rfl | (simp; done) | (simp [*]; done)), H', ⟨by have := HK1.out; omega⟩, ⟨by (with_reducible repeat (first | refine blk_drewN ?_ _ | refine blk_drew ?_ | refine blk_alloc ?_ _)); exact BK105.out⟩, ⟨by repeat (first | (with_reducible first | exact HB.out | apply below_alloc | apply pw_below_drewN | apply below_drew1 | refine below_set ?_ GE105.out) | exact HB.out)⟩⟩
        · rw [if_neg c4] at H
          exact absurd H (by simp)
      · rw [if_neg c3] at H
        have c3b0 : decide (x3_1 < 16) = false := decide_eq_false c3
        clear c3
        obtain rfl := Option.some.inj H
        go_wp2
        go_ret
        exact ⟨by first | rfl | (simp [errW_none, errW_some] <;> rfl) | (simp [*, errW_none, errW_some] <;> rfl), by repeat (first | (with_reducible first | exact HB.out | apply below_alloc | apply pw_below_drewN | apply below_drew1 | refine below_set ?_ GE105.out) | exact HB.out)⟩

/-! ### spec_l00In: function 52 -/
def spec_l00In.f (a0 : Int) (a1 : Int) (a2 : Int) : Option (Bool) := if a0 ≥ a1 then (some (decide (a0 ≤ a2))) else (some false)
set_option maxHeartbeats 8000000 in
set_option maxRecDepth 100000 in
theorem spec_l00In.calls (a0 : Int) (a1 : Int) (a2 : Int) (r : Bool) (w : World) (h : spec_l00In.f a0 a1 a2 = some r) :
    Calls Try.prog 52 #[.int .i64 a0, .int .i64 a1, .int .i64 a2] w fun e w' => e = .returned (.bool r) ∧ Drawn0 w w' := by
  have H : (if a0 ≥ a1 then (some (decide (a0 ≤ a2))) else (some false)) = some r := h
  clear h
  by_cases c4 : a0 ≥ a1
  · rw [if_pos c4] at H
    have c4b0 : decide (a1 ≤ a0) = true := decide_eq_true c4
    clear c4
    obtain rfl := Option.some.inj H
    go_enter Try.func52, Try.ntmps52
    go_wp2
    go_ret
    exact ⟨by first | rfl | (simp; done) | (simp [*]; done), by repeat (first | exact Drawn0.refl _ | apply Drawn0.step)⟩
  · rw [if_neg c4] at H
    have c4b0 : decide (a1 ≤ a0) = false := decide_eq_false c4
    clear c4
    obtain rfl := Option.some.inj H
    go_enter Try.func52, Try.ntmps52
    go_wp2
    go_ret
    exact ⟨by first | rfl | (simp; done) | (simp [*]; done), by repeat (first | exact Drawn0.refl _ | apply Drawn0.step)⟩

/-! ### spec_l01FitsGrain: function 53 -/
mutual
def spec_l01FitsGrain.l0 : Nat → Int → Int → Int → Vector Int 16 → Vector Int 16 → Option (Bool)
  | 0, _, _, _, _, _ => none
  | k + 1, x2, x7, x8, x107000, x108000 => if x8 < 16 then (if 0 ≤ x8 then (if (IntKind.i8.wrap ((Arr.vrd x107000 x8) + (Arr.vrd x108000 x8))) < (-1) then (spec_l01FitsGrain.j1 k x2 x7 x8 (IntKind.i8.wrap ((Arr.vrd x107000 x8) + (Arr.vrd x108000 x8))) true x107000 x108000) else (spec_l01FitsGrain.j1 k x2 x7 x8 (IntKind.i8.wrap ((Arr.vrd x107000 x8) + (Arr.vrd x108000 x8))) (decide ((IntKind.i8.wrap ((Arr.vrd x107000 x8) + (Arr.vrd x108000 x8))) > 1)) x107000 x108000)) else (none)) else (some (decide (x7 ≤ x2)))
def spec_l01FitsGrain.j1 : Nat → Int → Int → Int → Int → Bool → Vector Int 16 → Vector Int 16 → Option (Bool)
  | 0, _, _, _, _, _, _, _ => none
  | k + 1, x2, x7, x8, x9, x26, x107000, x108000 => if x26 = true then (some false) else (if x9 = 0 then (spec_l01FitsGrain.l0 k x2 x7 (wrap64 (x8 + 1)) x107000 x108000) else (spec_l01FitsGrain.l0 k x2 (wrap64 (x7 + 1)) (wrap64 (x8 + 1)) x107000 x108000))
end
def spec_l01FitsGrain.f (k : Nat) (a0_0 : Vector Int 16) (a1_0 : Vector Int 16) (a2 : Int) : Option (Bool) := spec_l01FitsGrain.l0 k a2 0 0 a0_0 a1_0
theorem spec_l01FitsGrain.mono_l : ∀ k, (∀ y0 y1 y2 y3 y4, LeO (spec_l01FitsGrain.l0 k y0 y1 y2 y3 y4) (spec_l01FitsGrain.l0 (k + 1) y0 y1 y2 y3 y4)) ∧ (∀ y0 y1 y2 y3 y4 y5 y6, LeO (spec_l01FitsGrain.j1 k y0 y1 y2 y3 y4 y5 y6) (spec_l01FitsGrain.j1 (k + 1) y0 y1 y2 y3 y4 y5 y6))
  | 0 => ⟨fun _ _ _ _ _ r h => by simp [spec_l01FitsGrain.l0] at h, fun _ _ _ _ _ _ _ r h => by simp [spec_l01FitsGrain.j1] at h⟩
  | k + 1 => by
    obtain ⟨ih0, ih1⟩ := spec_l01FitsGrain.mono_l k
    refine ⟨?_, ?_⟩
    · intro y0 y1 y2 y3 y4
      unfold spec_l01FitsGrain.l0
      repeat' first
      | (with_reducible exact ih0 _ _ _ _ _)
      | (with_reducible exact ih1 _ _ _ _ _ _ _)
      | (with_reducible exact LeO.refl _)
      | (with_reducible exact LeO.none _)
      | (with_reducible refine LeO.ite ?_ ?_)
      | (with_reducible refine LeO.bind ?_ (fun _ => ?_))
      | exact ih0 _ _ _ _ _
      | exact ih1 _ _ _ _ _ _ _
      | exact LeO.none _
      | refine LeO.ite ?_ ?_
      | refine LeO.bind ?_ (fun _ => ?_)
    · intro y0 y1 y2 y3 y4 y5 y6
      unfold spec_l01FitsGrain.j1
      repeat' first
      | (with_reducible exact ih0 _ _ _ _ _)
      | (with_reducible exact ih1 _ _ _ _ _ _ _)
      | (with_reducible exact LeO.refl _)
      | (with_reducible exact LeO.none _)
      | (with_reducible refine LeO.ite ?_ ?_)
      | (with_reducible refine LeO.bind ?_ (fun _ => ?_))
      | exact ih0 _ _ _ _ _
      | exact ih1 _ _ _ _ _ _ _
      | exact LeO.none _
      | refine LeO.ite ?_ ?_
      | refine LeO.bind ?_ (fun _ => ?_)
theorem spec_l01FitsGrain.mono : ∀ a0 a1 a2 k, LeO (spec_l01FitsGrain.f k a0 a1 a2) (spec_l01FitsGrain.f (k + 1) a0 a1 a2) := by
  intro a0 a1 a2 k
  obtain ⟨ih0, ih1⟩ := spec_l01FitsGrain.mono_l k
  unfold spec_l01FitsGrain.f
  repeat' first
      | (with_reducible exact ih0 _ _ _ _ _)
      | (with_reducible exact ih1 _ _ _ _ _ _ _)
      | (with_reducible exact LeO.refl _)
      | (with_reducible exact LeO.none _)
      | (with_reducible refine LeO.ite ?_ ?_)
      | (with_reducible refine LeO.bind ?_ (fun _ => ?_))
      | exact ih0 _ _ _ _ _
      | exact ih1 _ _ _ _ _ _ _
      | exact LeO.none _
      | refine LeO.ite ?_ ?_
      | refine LeO.bind ?_ (fun _ => ?_)
set_option maxHeartbeats 8000000 in
set_option maxRecDepth 100000 in
theorem spec_l01FitsGrain.calls (k : Nat) (a0_0 : Vector Int 16) (a1_0 : Vector Int 16) (a2 : Int) (r : Bool) (w : World) (h : spec_l01FitsGrain.f k a0_0 a1_0 a2 = some r) :
    Calls Try.prog 53 #[.agg (⟨Arr.arL .i8 a0_0⟩ : Array Value), .agg (⟨Arr.arL .i8 a1_0⟩ : Array Value), .int .i64 a2] w fun e w' => e = .returned (.bool r) ∧ Below w.heap.size w w' := by
  have hu25 := Try.underlying25
  have HB := Aside0.mk (Below.refl w.heap.size w)
  have H : (spec_l01FitsGrain.l0 k a2 0 0 a0_0 a1_0) = some r := h
  clear h
  have H' := Aside0.mk H
  clear H
  go_enter Try.func53, Try.ntmps53
  go_wp2_with (first | ((with_reducible refine gate_dst (N := 3) rfl ?_); refine box_event ?hg (N := 3) ?hd (cs := (⟨Arr.arL .i8 a0_0⟩ : Array Value)) (t := 25) ?hr ?_; (case hd => rfl); (case hg => rfl); (case hr => first | (go_simp; done) | (go_simp; rfl)); intro gb106 hg w4 hbox hb; have n0_ := Aside0.mk (below_step (by repeat (first | (with_reducible first | exact HB.out | apply below_alloc | apply pw_below_drewN | apply below_drew1) | exact HB.out)) hb); have n1_ := Aside0.mk (hbox); have n2_ := Aside0.mk ((by rw [hg]; exact (below_size (by repeat (first | (with_reducible first | exact HB.out | apply below_alloc | apply pw_below_drewN | apply below_drew1) | exact HB.out))) : w.heap.size ≤ gb106)); have n3_ := Aside0.mk ((by rw [hg]; exact (below_size (by repeat (first | (with_reducible first | exact HB.out | apply below_alloc | apply pw_below_drewN | apply below_drew1) | exact HB.out))) : w.heap.size ≤ gb106)); clear HB; have HB := n0_; have BK106 := n1_; have GW106 := n2_; have GE106 := n3_; clear n0_ n1_ n2_ n3_; clear hb hbox hg) | ((with_reducible refine gate_dst (N := 4) rfl ?_); refine box_event ?hg (N := 4) ?hd (cs := (⟨Arr.arL .i8 a1_0⟩ : Array Value)) (t := 25) ?hr ?_; (case hd => rfl); (case hg => rfl); (case hr => first | (go_simp; done) | (go_simp; rfl)); intro gb107 hg w5 hbox hb; have n0_ := Aside0.mk (blk_below (g := gb106) (o := .cells (⟨Arr.arL .i8 a0_0⟩ : Array Value) 25 (0, 0)) (by (with_reducible repeat (first | refine blk_drewN ?_ _ | refine blk_drew ?_ | refine blk_alloc ?_ _)); exact BK106.out) hb); have n1_ := Aside0.mk (below_step (by repeat (first | (with_reducible first | exact HB.out | apply below_alloc | apply pw_below_drewN | apply below_drew1 | refine below_set ?_ GE106.out) | exact HB.out)) hb); have n2_ := Aside0.mk (hbox); have n3_ := Aside0.mk ((by rw [hg]; exact (below_size (by repeat (first | (with_reducible first | exact HB.out | apply below_alloc | apply pw_below_drewN | apply below_drew1 | refine below_set ?_ GE106.out) | exact HB.out))) : w.heap.size ≤ gb107)); have n4_ := Aside0.mk ((by rw [hg]; exact (below_size (by repeat (first | (with_reducible first | exact HB.out | apply below_alloc | apply pw_below_drewN | apply below_drew1 | refine below_set ?_ GE106.out) | exact HB.out))) : w.heap.size ≤ gb107)); have n5_ := Aside0.mk ((by rw [hg]; exact Nat.ne_of_lt (blk_lt (g := gb106) (o := .cells (⟨Arr.arL .i8 a0_0⟩ : Array Value) 25 (0, 0)) (by (with_reducible repeat (first | refine blk_drewN ?_ _ | refine blk_drew ?_ | refine blk_alloc ?_ _)); exact BK106.out)) : gb106 ≠ gb107)); have n6_ := Aside0.mk ((by rw [hg]; exact Nat.ne_of_gt (blk_lt (g := gb106) (o := .cells (⟨Arr.arL .i8 a0_0⟩ : Array Value) 25 (0, 0)) (by (with_reducible repeat (first | refine blk_drewN ?_ _ | refine blk_drew ?_ | refine blk_alloc ?_ _)); exact BK106.out)) : gb107 ≠ gb106)); clear BK106; clear HB; have BK106 := n0_; have HB := n1_; have BK107 := n2_; have GW107 := n3_; have GE107 := n4_; have NB106_107 := n5_; have NB107_106 := n6_; clear n0_ n1_ n2_ n3_ n4_ n5_ n6_; clear hb hbox hg))
  repeat (go_quiet (first | ((with_reducible refine gate_dst (N := 3) rfl ?_); refine box_event ?hg (N := 3) ?hd (cs := (⟨Arr.arL .i8 a0_0⟩ : Array Value)) (t := 25) ?hr ?_; (case hd => rfl); (case hg => rfl); (case hr => first | (go_simp; done) | (go_simp; rfl)); intro gb106 hg w4 hbox hb; have n0_ := Aside0.mk (below_step (by repeat (first | (with_reducible first | exact HB.out | apply below_alloc | apply pw_below_drewN | apply below_drew1) | exact HB.out)) hb); have n1_ := Aside0.mk (hbox); have n2_ := Aside0.mk ((by rw [hg]; exact (below_size (by repeat (first | (with_reducible first | exact HB.out | apply below_alloc | apply pw_below_drewN | apply below_drew1) | exact HB.out))) : w.heap.size ≤ gb106)); have n3_ := Aside0.mk ((by rw [hg]; exact (below_size (by repeat (first | (with_reducible first | exact HB.out | apply below_alloc | apply pw_below_drewN | apply below_drew1) | exact HB.out))) : w.heap.size ≤ gb106)); clear HB; have HB := n0_; have BK106 := n1_; have GW106 := n2_; have GE106 := n3_; clear n0_ n1_ n2_ n3_; clear hb hbox hg) | ((with_reducible refine gate_dst (N := 4) rfl ?_); refine box_event ?hg (N := 4) ?hd (cs := (⟨Arr.arL .i8 a1_0⟩ : Array Value)) (t := 25) ?hr ?_; (case hd => rfl); (case hg => rfl); (case hr => first | (go_simp; done) | (go_simp; rfl)); intro gb107 hg w5 hbox hb; have n0_ := Aside0.mk (blk_below (g := gb106) (o := .cells (⟨Arr.arL .i8 a0_0⟩ : Array Value) 25 (0, 0)) (by (with_reducible repeat (first | refine blk_drewN ?_ _ | refine blk_drew ?_ | refine blk_alloc ?_ _)); exact BK106.out) hb); have n1_ := Aside0.mk (below_step (by repeat (first | (with_reducible first | exact HB.out | apply below_alloc | apply pw_below_drewN | apply below_drew1 | refine below_set ?_ GE106.out) | exact HB.out)) hb); have n2_ := Aside0.mk (hbox); have n3_ := Aside0.mk ((by rw [hg]; exact (below_size (by repeat (first | (with_reducible first | exact HB.out | apply below_alloc | apply pw_below_drewN | apply below_drew1 | refine below_set ?_ GE106.out) | exact HB.out))) : w.heap.size ≤ gb107)); have n4_ := Aside0.mk ((by rw [hg]; exact (below_size (by repeat (first | (with_reducible first | exact HB.out | apply below_alloc | apply pw_below_drewN | apply below_drew1 | refine below_set ?_ GE106.out) | exact HB.out))) : w.heap.size ≤ gb107)); have n5_ := Aside0.mk ((by rw [hg]; exact Nat.ne_of_lt (blk_lt (g := gb106) (o := .cells (⟨Arr.arL .i8 a0_0⟩ : Array Value) 25 (0, 0)) (by (with_reducible repeat (first | refine blk_drewN ?_ _ | refine blk_drew ?_ | refine blk_alloc ?_ _)); exact BK106.out)) : gb106 ≠ gb107)); have n6_ := Aside0.mk ((by rw [hg]; exact Nat.ne_of_gt (blk_lt (g := gb106) (o := .cells (⟨Arr.arL .i8 a0_0⟩ : Array Value) 25 (0, 0)) (by (with_reducible repeat (first | refine blk_drewN ?_ _ | refine blk_drew ?_ | refine blk_alloc ?_ _)); exact BK106.out)) : gb107 ≠ gb106)); clear BK106; clear HB; have BK106 := n0_; have HB := n1_; have BK107 := n2_; have GW107 := n3_; have GE107 := n4_; have NB106_107 := n5_; have NB107_106 := n6_; clear n0_ n1_ n2_ n3_ n4_ n5_ n6_; clear hb hbox hg)); try go_wp2_with (first | ((with_reducible refine gate_dst (N := 3) rfl ?_); refine box_event ?hg (N := 3) ?hd (cs := (⟨Arr.arL .i8 a0_0⟩ : Array Value)) (t := 25) ?hr ?_; (case hd => rfl); (case hg => rfl); (case hr => first | (go_simp; done) | (go_simp; rfl)); intro gb106 hg w4 hbox hb; have n0_ := Aside0.mk (below_step (by repeat (first | (with_reducible first | exact HB.out | apply below_alloc | apply pw_below_drewN | apply below_drew1) | exact HB.out)) hb); have n1_ := Aside0.mk (hbox); have n2_ := Aside0.mk ((by rw [hg]; exact (below_size (by repeat (first | (with_reducible first | exact HB.out | apply below_alloc | apply pw_below_drewN | apply below_drew1) | exact HB.out))) : w.heap.size ≤ gb106)); have n3_ := Aside0.mk ((by rw [hg]; exact (below_size (by repeat (first | (with_reducible first | exact HB.out | apply below_alloc | apply pw_below_drewN | apply below_drew1) | exact HB.out))) : w.heap.size ≤ gb106)); clear HB; have HB := n0_; have BK106 := n1_; have GW106 := n2_; have GE106 := n3_; clear n0_ n1_ n2_ n3_; clear hb hbox hg) | ((with_reducible refine gate_dst (N := 4) rfl ?_); refine box_event ?hg (N := 4) ?hd (cs := (⟨Arr.arL .i8 a1_0⟩ : Array Value)) (t := 25) ?hr ?_; (case hd => rfl); (case hg => rfl); (case hr => first | (go_simp; done) | (go_simp; rfl)); intro gb107 hg w5 hbox hb; have n0_ := Aside0.mk (blk_below (g := gb106) (o := .cells (⟨Arr.arL .i8 a0_0⟩ : Array Value) 25 (0, 0)) (by (with_reducible repeat (first | refine blk_drewN ?_ _ | refine blk_drew ?_ | refine blk_alloc ?_ _)); exact BK106.out) hb); have n1_ := Aside0.mk (below_step (by repeat (first | (with_reducible first | exact HB.out | apply below_alloc | apply pw_below_drewN | apply below_drew1 | refine below_set ?_ GE106.out) | exact HB.out)) hb); have n2_ := Aside0.mk (hbox); have n3_ := Aside0.mk ((by rw [hg]; exact (below_size (by repeat (first | (with_reducible first | exact HB.out | apply below_alloc | apply pw_below_drewN | apply below_drew1 | refine below_set ?_ GE106.out) | exact HB.out))) : w.heap.size ≤ gb107)); have n4_ := Aside0.mk ((by rw [hg]; exact (below_size (by repeat (first | (with_reducible first | exact HB.out | apply below_alloc | apply pw_below_drewN | apply below_drew1 | refine below_set ?_ GE106.out) | exact HB.out))) : w.heap.size ≤ gb107)); have n5_ := Aside0.mk ((by rw [hg]; exact Nat.ne_of_lt (blk_lt (g := gb106) (o := .cells (⟨Arr.arL .i8 a0_0⟩ : Array Value) 25 (0, 0)) (by (with_reducible repeat (first | refine blk_drewN ?_ _ | refine blk_drew ?_ | refine blk_alloc ?_ _)); exact BK106.out)) : gb106 ≠ gb107)); have n6_ := Aside0.mk ((by rw [hg]; exact Nat.ne_of_gt (blk_lt (g := gb106) (o := .cells (⟨Arr.arL .i8 a0_0⟩ : Array Value) 25 (0, 0)) (by (with_reducible repeat (first | refine blk_drewN ?_ _ | refine blk_drew ?_ | refine blk_alloc ?_ _)); exact BK106.out)) : gb107 ≠ gb106)); clear BK106; clear HB; have BK106 := n0_; have HB := n1_; have BK107 := n2_; have GW107 := n3_; have GE107 := n4_; have NB106_107 := n5_; have NB107_106 := n6_; clear n0_ n1_ n2_ n3_ n4_ n5_ n6_; clear hb hbox hg)))
  go_loopg [7, 8] k (fun kq v7 v8 w' => ∃ (x7_1 : Int) (x8_1 : Int), v7 = .int .i64 x7_1 ∧ v8 = .int .i64 x8_1 ∧ Aside0 (spec_l01FitsGrain.l0 kq a2 x7_1 x8_1 a0_0 a1_0 = some r) ∧ Aside0 (kq ≤ k) ∧ Aside0 (w'.heap[gb106]? = some (.cells (⟨Arr.arL .i8 a0_0⟩ : Array Value) 25 (0, 0))) ∧ Aside0 (w'.heap[gb107]? = some (.cells (⟨Arr.arL .i8 a1_0⟩ : Array Value) 25 (0, 0))) ∧ Aside0 (Below w.heap.size w w'))
  case atStart => exact ⟨(0), (0), (by first | rfl | (simp; done) | (simp [*]; done)), (by first | rfl | (simp; done) | (simp [*]; done)), H', ⟨Nat.le_refl _⟩, ⟨by (with_reducible repeat (first | refine blk_drewN ?_ _ | refine blk_drew ?_ | refine blk_alloc ?_ _)); exact BK106.out⟩, ⟨by (with_reducible repeat (first | refine blk_drewN ?_ _ | refine blk_drew ?_ | refine blk_alloc ?_ _)); exact BK107.out⟩, ⟨by repeat (first | (with_reducible first | exact HB.out | apply below_alloc | apply pw_below_drewN | apply below_drew1 | refine below_set ?_ GE106.out | refine below_set ?_ GE107.out) | exact HB.out)⟩⟩
  case round =>
    clear H'
    try clear p2
    try clear c5
    obtain ⟨x7_1, x8_1, rfl, rfl, HA, HK1, BK106, BK107, HB⟩ := hrel
    cases gk with
    | zero => exact absurd HA.out (by simp [spec_l01FitsGrain.l0])
    | succ k1 =>
      have H := HA.out
      clear HA
      simp only [spec_l01FitsGrain.l0] at H
      by_cases c6 : x8_1 < 16
      · rw [if_pos c6] at H
        have c6b0 : decide (x8_1 < 16) = true := decide_eq_true c6
        clear c6
        by_cases c7 : 0 ≤ x8_1
        · rw [if_pos c7] at H
          have c7b0 : decide (0 ≤ x8_1) = true := decide_eq_true c7
          clear c7
          have HC12 := Aside0.mk H
          clear H
          have p8 : 0 ≤ (x8_1 : Int) := of_decide_eq_true (by first | (with_reducible assumption) | assumption)
          have q8 : (x8_1 : Int) < 16 := of_decide_eq_true (by first | (with_reducible assumption) | assumption)
          replace p8 := eq_true p8
          replace q8 := eq_true q8
          have hx9 : wr.cell? ⟨gb106, x8_1.toNat, none⟩ = some (.int .i8 (Arr.vrd a0_0 x8_1)) := Arr.cellN (off := 0) (l := (Arr.arL .i8 a0_0)) (show wr.heap[gb106]? = some (.cells (⟨Arr.arL .i8 a0_0⟩ : Array Value) 25 (0, 0)) from by (with_reducible repeat (first | refine blk_drewN ?_ _ | refine blk_drew ?_ | refine blk_alloc ?_ _)); exact BK106.out) rfl (x8_1.toNat) (x8_1.toNat) (by omega) (by have a0_ := of_eq_true p8; have b0_ := of_eq_true q8; omega)
          have hf9 := blk_frozen (show wr.heap[gb106]? = some (.cells (⟨Arr.arL .i8 a0_0⟩ : Array Value) 25 (0, 0)) from by (with_reducible repeat (first | refine blk_drewN ?_ _ | refine blk_drew ?_ | refine blk_alloc ?_ _)); exact BK106.out) (x8_1.toNat)
          have p10 : 0 ≤ (x8_1 : Int) := of_decide_eq_true (by first | (with_reducible assumption) | assumption)
          have q10 : (x8_1 : Int) < 16 := of_decide_eq_true (by first | (with_reducible assumption) | assumption)
          replace p10 := eq_true p10
          replace q10 := eq_true q10
          have hx11 : wr.cell? ⟨gb107, x8_1.toNat, none⟩ = some (.int .i8 (Arr.vrd a1_0 x8_1)) := Arr.cellN (off := 0) (l := (Arr.arL .i8 a1_0)) (show wr.heap[gb107]? = some (.cells (⟨Arr.arL .i8 a1_0⟩ : Array Value) 25 (0, 0)) from by (with_reducible repeat (first | refine blk_drewN ?_ _ | refine blk_drew ?_ | refine blk_alloc ?_ _)); exact BK107.out) rfl (x8_1.toNat) (x8_1.toNat) (by omega) (by have a0_ := of_eq_true p10; have b0_ := of_eq_true q10; omega)
          have hf11 := blk_frozen (show wr.heap[gb107]? = some (.cells (⟨Arr.arL .i8 a1_0⟩ : Array Value) 25 (0, 0)) from by (with_reducible repeat (first | refine blk_drewN ?_ _ | refine blk_drew ?_ | refine blk_alloc ?_ _)); exact BK107.out) (x8_1.toNat)
          go_upto_region 6 with (fail)
          repeat (go_quiet (fail); go_upto_region 6 with (fail))
          go_cut [26] (fun v26 wc => ∃ (kq : Nat) (x26_11 : Bool), v26 = .bool x26_11 ∧ Aside0 (spec_l01FitsGrain.j1 kq a2 x7_1 x8_1 (IntKind.i8.wrap ((Arr.vrd a0_0 x8_1) + (Arr.vrd a1_0 x8_1))) x26_11 a0_0 a1_0 = some r) ∧ Aside0 (kq ≤ k1) ∧ Aside0 (wc.heap[gb106]? = some (.cells (⟨Arr.arL .i8 a0_0⟩ : Array Value) 25 (0, 0))) ∧ Aside0 (wc.heap[gb107]? = some (.cells (⟨Arr.arL .i8 a1_0⟩ : Array Value) 25 (0, 0))) ∧ Aside0 (Below w.heap.size w wc))
          case first =>
            have H := HC12.out
            clear HC12
            by_cases c13 : (IntKind.i8.wrap ((Arr.vrd a0_0 x8_1) + (Arr.vrd a1_0 x8_1))) < (-1)
            · rw [if_pos c13] at H
              have c13b0 : decide ((IntKind.i8.wrap ((Arr.vrd a0_0 x8_1) + (Arr.vrd a1_0 x8_1))) < (-1)) = true := decide_eq_true c13
              clear c13
              (first | rw [c13b0] | (simp only [i64_w, i32_w]; rw [c13b0]) | skip)
              have H' := Aside0.mk H
              clear H
              go_wp2
              repeat (go_quiet (fail); try go_wp2)
              go_meet
              case rel => exact ⟨_, (true), (by first | rfl | (simp; done) | (simp [*]; done)), H', ⟨by have := HK1.out; first | omega | exact Nat.le_refl _⟩, ⟨by (with_reducible repeat (first | refine blk_drewN ?_ _ | refine blk_drew ?_ | refine blk_alloc ?_ _)); exact BK106.out⟩, ⟨by (with_reducible repeat (first | refine blk_drewN ?_ _ | refine blk_drew ?_ | refine blk_alloc ?_ _)); exact BK107.out⟩, ⟨by repeat (first | (with_reducible first | exact HB.out | apply below_alloc | apply pw_below_drewN | apply below_drew1 | refine below_set ?_ GE106.out | refine below_set ?_ GE107.out) | exact HB.out)⟩⟩
            · rw [if_neg c13] at H
              have c13b0 : decide ((IntKind.i8.wrap ((Arr.vrd a0_0 x8_1) + (Arr.vrd a1_0 x8_1))) < (-1)) = false := decide_eq_false c13
              clear c13
              (first | rw [c13b0] | (simp only [i64_w, i32_w]; rw [c13b0]) | skip)
              have H' := Aside0.mk H
              clear H
              go_wp2
              repeat (go_quiet (fail); try go_wp2)
              go_meet
              case rel => exact ⟨_, (decide ((IntKind.i8.wrap ((Arr.vrd a0_0 x8_1) + (Arr.vrd a1_0 x8_1))) > 1)), (by first | rfl | (simp; done) | (simp [*]; done)), H', ⟨by have := HK1.out; first | omega | exact Nat.le_refl _⟩, ⟨by (with_reducible repeat (first | refine blk_drewN ?_ _ | refine blk_drew ?_ | refine blk_alloc ?_ _)); exact BK106.out⟩, ⟨by (with_reducible repeat (first | refine blk_drewN ?_ _ | refine blk_drew ?_ | refine blk_alloc ?_ _)); exact BK107.out⟩, ⟨by repeat (first | (with_reducible first | exact HB.out | apply below_alloc | apply pw_below_drewN | apply below_drew1 | refine below_set ?_ GE106.out | refine below_set ?_ GE107.out) | exact HB.out)⟩⟩
          case rest =>
            clear HC12
            try clear c1
            try clear p1
            try clear q1
            try clear hx1
            try clear p2
            try clear c5
            try clear c6
            try clear c6b0
            try clear c7
            try clear c7b0
            try clear p8
            try clear q8
            try clear hx9
            try clear hf9
            try clear p10
            try clear q10
            try clear hx11
            try clear hf11
            try clear c13
            try clear c13b0
            try clear p10
            try clear p2
            try clear p8
            try clear q10
            try clear q8
            obtain ⟨kq, x26_11, rfl, HA, HJ11, BK106, BK107, HB⟩ := hcut
            cases kq with
            | zero => exact absurd HA.out (by simp [spec_l01FitsGrain.j1])
            | succ kj11 =>
              have H := HA.out
              clear HA
              simp only [spec_l01FitsGrain.j1] at H
              by_cases c14 : x26_11 = true
              · subst c14
                have H1 : (some false) = some r := by rw [if_pos rfl] at H; exact H
                clear H
                have H := H1
                clear H1
                obtain rfl := Option.some.inj H
                go_wp2
                repeat (go_quiet (fail); try go_wp2)
                go_ret
                exact ⟨by first | rfl | (simp [errW_none, errW_some] <;> rfl) | (simp [*, errW_none, errW_some] <;> rfl), by repeat (first | (with_reducible first | exact HB.out | apply below_alloc | apply pw_below_drewN | apply below_drew1 | refine below_set ?_ GE106.out | refine below_set ?_ GE107.out) | exact HB.out)⟩
              · replace c14 := Bool.eq_false_iff.mpr c14
                subst c14
                have H1 : (if (IntKind.i8.wrap ((Arr.vrd a0_0 x8_1) + (Arr.vrd a1_0 x8_1))) = 0 then (spec_l01FitsGrain.l0 kj11 a2 x7_1 (wrap64 (x8_1 + 1)) a0_0 a1_0) else (spec_l01FitsGrain.l0 kj11 a2 (wrap64 (x7_1 + 1)) (wrap64 (x8_1 + 1)) a0_0 a1_0)) = some r := by rw [if_neg (show ¬ (false = true) by decide)] at H; exact H
                clear H
                have H := H1
                clear H1
                by_cases c15 : (IntKind.i8.wrap ((Arr.vrd a0_0 x8_1) + (Arr.vrd a1_0 x8_1))) = 0
                · rw [if_pos c15] at H
                  have c15b0 : ((IntKind.i8.wrap ((Arr.vrd a0_0 x8_1) + (Arr.vrd a1_0 x8_1))) == 0) = true := beq_iff_eq.mpr c15
                  have c15b1 : ((IntKind.i8.wrap ((Arr.vrd a0_0 x8_1) + (Arr.vrd a1_0 x8_1))) != 0) = false := bne_eq_false_iff_eq.mpr c15
                  clear c15
                  have H' := Aside0.mk H
                  clear H
                  go_wp2
                  repeat (go_quiet (fail); try go_wp2)
                  go_roundg kj11
                  case measure => have := HK1.out; have := HJ11.out; omega
                  case rel => exact ⟨(x7_1), (wrap64 (x8_1 + 1)), (by first | rfl | (simp; done) | (simp [*]; done)), (by first | rfl | (simp; done) | (simp [*]; done)), H', ⟨by have := HK1.out; have := HJ11.out; omega⟩, ⟨by (with_reducible repeat (first | refine blk_drewN ?_ _ | refine blk_drew ?_ | refine blk_alloc ?_ _)); exact BK106.out⟩, ⟨by (with_reducible repeat (first | refine blk_drewN ?_ _ | refine blk_drew ?_ | refine blk_alloc ?_ _)); exact BK107.out⟩, ⟨by repeat (first | (with_reducible first | exact HB.out | apply below_alloc | apply pw_below_drewN | apply below_drew1 | refine below_set ?_ GE106.out | refine below_set ?_ GE107.out) | exact HB.out)⟩⟩
                · rw [if_neg c15] at H
                  have c15b0 : ((IntKind.i8.wrap ((Arr.vrd a0_0 x8_1) + (Arr.vrd a1_0 x8_1))) == 0) = false := beq_eq_false_iff_ne.mpr c15
                  have c15b1 : ((IntKind.i8.wrap ((Arr.vrd a0_0 x8_1) + (Arr.vrd a1_0 x8_1))) != 0) = true := bne_iff_ne.mpr c15
                  have H' := Aside0.mk H
                  clear H
                  go_wp2
                  repeat (go_quiet (fail); try go_wp2)
                  go_roundg kj11
                  case measure => have := HK1.out; have := HJ11.out; omega
                  case rel => exact ⟨(wrap64 (x7_1 + 1)), (wrap64 (x8_1 + 1)), (by first | rfl | (simp; done) | (simp [*]; done)), (by first | rfl | (simp; done) | (simp [*]; done)), H', ⟨by have := HK1.out; have := HJ11.out; omega⟩, ⟨by (with_reducible repeat (first | refine blk_drewN ?_ _ | refine blk_drew ?_ | refine blk_alloc ?_ _)); exact BK106.out⟩, ⟨by (with_reducible repeat (first | refine blk_drewN ?_ _ | refine blk_drew ?_ | refine blk_alloc ?_ _)); exact BK107.out⟩, ⟨by repeat (first | (with_reducible first | exact HB.out | apply below_alloc | apply pw_below_drewN | apply below_drew1 | refine below_set ?_ GE106.out | refine below_set ?_ GE107.out) | exact HB.out)⟩⟩
        · rw [if_neg c7] at H
          exact absurd H (by simp)
      · rw [if_neg c6] at H
        have c6b0 : decide (x8_1 < 16) = false := decide_eq_false c6
        clear c6
        obtain rfl := Option.some.inj H
        go_wp2
        repeat (go_quiet (fail); try go_wp2)
        go_ret
        exact ⟨by first | rfl | (simp [errW_none, errW_some] <;> rfl) | (simp [*, errW_none, errW_some] <;> rfl), by repeat (first | (with_reducible first | exact HB.out | apply below_alloc | apply pw_below_drewN | apply below_drew1 | refine below_set ?_ GE106.out | refine below_set ?_ GE107.out) | exact HB.out)⟩

/-! ### spec_FitsGrain: function 25 -/
def spec_FitsGrain.j0 : Nat → Int → Bool → Vector Int 16 → Vector Int 16 → Option (Bool × Int)
  | 0, _, _, _, _ => none
  | k + 1, x2, x15, x109000, x110000 => if x15 = true then (some (false, 1)) else ((spec_l00In.f x2 0 16).bind fun t112 => (if t112 = true then ((spec_l01FitsGrain.f k x109000 x110000 x2).bind fun t113 => (some (t113, 0))) else (some (false, 2))))
def spec_FitsGrain.f (k : Nat) (a0_0 : Vector Int 16) (a1_0 : Vector Int 16) (a2 : Int) : Option (Bool × Int) := (spec_l01Grain.f k a0_0).bind fun t110 => (if t110 = true then ((spec_l01Grain.f k a1_0).bind fun t111 => (spec_FitsGrain.j0 k a2 (!t111) a0_0 a1_0)) else (spec_FitsGrain.j0 k a2 true a0_0 a1_0))
theorem spec_FitsGrain.mono_l : ∀ k, (∀ y0 y1 y2 y3, LeO (spec_FitsGrain.j0 k y0 y1 y2 y3) (spec_FitsGrain.j0 (k + 1) y0 y1 y2 y3))
  | 0 => fun _ _ _ _ r h => by simp [spec_FitsGrain.j0] at h
  | k + 1 => by
    have ih0 := spec_FitsGrain.mono_l k
    · intro y0 y1 y2 y3
      unfold spec_FitsGrain.j0
      repeat' first
      | (with_reducible exact ih0 _ _ _ _)
      | (with_reducible exact spec_l01FitsGrain.mono _ _ _ _)
      | (with_reducible exact spec_l01Grain.mono _ _)
      | (with_reducible exact LeO.refl _)
      | (with_reducible exact LeO.none _)
      | (with_reducible refine LeO.ite ?_ ?_)
      | (with_reducible refine LeO.bind ?_ (fun _ => ?_))
      | exact ih0 _ _ _ _
      | exact spec_l01FitsGrain.mono _ _ _ _
      | exact spec_l01Grain.mono _ _
      | exact LeO.none _
      | refine LeO.ite ?_ ?_
      | refine LeO.bind ?_ (fun _ => ?_)
theorem spec_FitsGrain.mono : ∀ a0 a1 a2 k, LeO (spec_FitsGrain.f k a0 a1 a2) (spec_FitsGrain.f (k + 1) a0 a1 a2) := by
  intro a0 a1 a2 k
  have ih0 := spec_FitsGrain.mono_l k
  unfold spec_FitsGrain.f
  repeat' first
      | (with_reducible exact ih0 _ _ _ _)
      | (with_reducible exact spec_l01FitsGrain.mono _ _ _ _)
      | (with_reducible exact spec_l01Grain.mono _ _)
      | (with_reducible exact LeO.refl _)
      | (with_reducible exact LeO.none _)
      | (with_reducible refine LeO.ite ?_ ?_)
      | (with_reducible refine LeO.bind ?_ (fun _ => ?_))
      | exact ih0 _ _ _ _
      | exact spec_l01FitsGrain.mono _ _ _ _
      | exact spec_l01Grain.mono _ _
      | exact LeO.none _
      | refine LeO.ite ?_ ?_
      | refine LeO.bind ?_ (fun _ => ?_)
set_option maxHeartbeats 8000000 in
set_option maxRecDepth 100000 in
theorem spec_FitsGrain.calls (k : Nat) (a0_0 : Vector Int 16) (a1_0 : Vector Int 16) (a2 : Int) (r1 : Bool) (r2 : Int) (w : World) (h : spec_FitsGrain.f k a0_0 a1_0 a2 = some (r1, r2)) :
    Calls Try.prog 25 #[.agg (⟨Arr.arL .i8 a0_0⟩ : Array Value), .agg (⟨Arr.arL .i8 a1_0⟩ : Array Value), .int .i64 a2] w fun e w' => e = .returned (.tuple #[.bool r1, .int .i64 r2]) ∧ Below w.heap.size w w' := by
  have hu25 := Try.underlying25
  have HB := Aside0.mk (Below.refl w.heap.size w)
  have H : ((spec_l01Grain.f k a0_0).bind fun t110 => (if t110 = true then ((spec_l01Grain.f k a1_0).bind fun t111 => (spec_FitsGrain.j0 k a2 (!t111) a0_0 a1_0)) else (spec_FitsGrain.j0 k a2 true a0_0 a1_0))) = some (r1, r2) := h
  clear h
  have HC4 := Aside0.mk H
  clear H
  go_enter Try.func25, Try.ntmps25
  go_upto_region 1 with (first | ((with_reducible refine gate_dst (N := 3) rfl ?_); refine box_event ?hg (N := 3) ?hd (cs := (⟨Arr.arL .i8 a0_0⟩ : Array Value)) (t := 25) ?hr ?_; (case hd => rfl); (case hg => rfl); (case hr => first | (go_simp; done) | (go_simp; rfl)); intro gb108 hg w5 hbox hb; have n0_ := Aside0.mk (below_step (by repeat (first | (with_reducible first | exact HB.out | apply below_alloc | apply pw_below_drewN | apply below_drew1) | exact HB.out)) hb); have n1_ := Aside0.mk (hbox); have n2_ := Aside0.mk ((by rw [hg]; exact (below_size (by repeat (first | (with_reducible first | exact HB.out | apply below_alloc | apply pw_below_drewN | apply below_drew1) | exact HB.out))) : w.heap.size ≤ gb108)); have n3_ := Aside0.mk ((by rw [hg]; exact (below_size (by repeat (first | (with_reducible first | exact HB.out | apply below_alloc | apply pw_below_drewN | apply below_drew1) | exact HB.out))) : w.heap.size ≤ gb108)); clear HB; have HB := n0_; have BK108 := n1_; have GW108 := n2_; have GE108 := n3_; clear n0_ n1_ n2_ n3_; clear hb hbox hg) | ((with_reducible refine gate_dst (N := 4) rfl ?_); refine box_event ?hg (N := 4) ?hd (cs := (⟨Arr.arL .i8 a1_0⟩ : Array Value)) (t := 25) ?hr ?_; (case hd => rfl); (case hg => rfl); (case hr => first | (go_simp; done) | (go_simp; rfl)); intro gb109 hg w6 hbox hb; have n0_ := Aside0.mk (blk_below (g := gb108) (o := .cells (⟨Arr.arL .i8 a0_0⟩ : Array Value) 25 (0, 0)) (by (with_reducible repeat (first | refine blk_drewN ?_ _ | refine blk_drew ?_ | refine blk_alloc ?_ _)); exact BK108.out) hb); have n1_ := Aside0.mk (below_step (by repeat (first | (with_reducible first | exact HB.out | apply below_alloc | apply pw_below_drewN | apply below_drew1 | refine below_set ?_ GE108.out) | exact HB.out)) hb); have n2_ := Aside0.mk (hbox); have n3_ := Aside0.mk ((by rw [hg]; exact (below_size (by repeat (first | (with_reducible first | exact HB.out | apply below_alloc | apply pw_below_drewN | apply below_drew1 | refine below_set ?_ GE108.out) | exact HB.out))) : w.heap.size ≤ gb109)); have n4_ := Aside0.mk ((by rw [hg]; exact (below_size (by repeat (first | (with_reducible first | exact HB.out | apply below_alloc | apply pw_below_drewN | apply below_drew1 | refine below_set ?_ GE108.out) | exact HB.out))) : w.heap.size ≤ gb109)); have n5_ := Aside0.mk ((by rw [hg]; exact Nat.ne_of_lt (blk_lt (g := gb108) (o := .cells (⟨Arr.arL .i8 a0_0⟩ : Array Value) 25 (0, 0)) (by (with_reducible repeat (first | refine blk_drewN ?_ _ | refine blk_drew ?_ | refine blk_alloc ?_ _)); exact BK108.out)) : gb108 ≠ gb109)); have n6_ := Aside0.mk ((by rw [hg]; exact Nat.ne_of_gt (blk_lt (g := gb108) (o := .cells (⟨Arr.arL .i8 a0_0⟩ : Array Value) 25 (0, 0)) (by (with_reducible repeat (first | refine blk_drewN ?_ _ | refine blk_drew ?_ | refine blk_alloc ?_ _)); exact BK108.out)) : gb109 ≠ gb108)); clear BK108; clear HB; have BK108 := n0_; have HB := n1_; have BK109 := n2_; have GW109 := n3_; have GE109 := n4_; have NB108_109 := n5_; have NB109_108 := n6_; clear n0_ n1_ n2_ n3_ n4_ n5_ n6_; clear hb hbox hg))
  (try simp only [Act.put, List.setIfInBounds_toArray, List.set_cons_zero, List.set_cons_succ])
  go_cut [15] (fun v15 wc => ∃ (kq : Nat) (x15_3 : Bool), v15 = .bool x15_3 ∧ Aside0 (spec_FitsGrain.j0 kq a2 x15_3 a0_0 a1_0 = some (r1, r2)) ∧ Aside0 (kq ≤ k) ∧ Aside0 (wc.heap[gb108]? = some (.cells (⟨Arr.arL .i8 a0_0⟩ : Array Value) 25 (0, 0))) ∧ Aside0 (wc.heap[gb109]? = some (.cells (⟨Arr.arL .i8 a1_0⟩ : Array Value) 25 (0, 0))) ∧ Aside0 (Below w.heap.size w wc))
  case first =>
    have H := HC4.out
    clear HC4
    replace H := Option.bind_eq_some_iff.mp H
    obtain ⟨t110, A80, H⟩ := H
    replace H : (if t110 = true then ((spec_l01Grain.f k a1_0).bind fun t111 => (spec_FitsGrain.j0 k a2 (!t111) a0_0 a1_0)) else (spec_FitsGrain.j0 k a2 true a0_0 a1_0)) = some (r1, r2) := H
    have A8 := Aside0.mk A80
    clear A80
    by_cases c9 : t110 = true
    · subst c9
      have H1 : ((spec_l01Grain.f k a1_0).bind fun t111 => (spec_FitsGrain.j0 k a2 (!t111) a0_0 a1_0)) = some (r1, r2) := by rw [if_pos rfl] at H; exact H
      clear H
      have H := H1
      clear H1
      replace H := Option.bind_eq_some_iff.mp H
      obtain ⟨t111, A110, H⟩ := H
      replace H : (spec_FitsGrain.j0 k a2 (!t111) a0_0 a1_0) = some (r1, r2) := H
      have A11 := Aside0.mk A110
      clear A110
      have H' := Aside0.mk H
      clear H
      go_wp2_with (first | ((with_reducible refine Arr.gate_load (t := 25) (p := 3) rfl ?_); (try (refine gate_guard (by rfl) ?_; dsimp only)); refine Arr.loadA ?hg (T := 25) (p := 3) ?ho (g := gb108) (off := 0) ?hx (t := 25) (l := (Arr.arL .i8 a0_0)) (m := (Arr.arL .i8 a0_0)) (fr := (0, 0)) (show w6.heap[gb108]? = some (.cells (⟨Arr.arL .i8 a0_0⟩ : Array Value) 25 (0, 0)) from by (with_reducible repeat (first | refine blk_drewN ?_ _ | refine blk_drew ?_ | refine blk_alloc ?_ _)); exact BK108.out) rfl Try.underlying25 rfl (n := 16) (by kernel_rfl) (by simp [Arr.arL_length]) ?_; (case hg => rfl); (case ho => rfl); (case hx => first | rfl | (go_simp; done) | (go_simp; rfl))) | ((with_reducible refine gate_callee (f := 48) rfl ?_); refine goesL_ (some 9) rfl rfl Try.func48 (by kernel_rfl) rfl #[.agg (⟨Arr.arL .i8 a0_0⟩ : Array Value)] rfl (by (try simp only [List.map_toArray, List.map_cons, List.map_nil]); first | done | rfl | (simp only [List.length_drop, List.length_take]; rfl)) ?_; (with_reducible refine (spec_l01Grain.calls k a0_0 true _ A8.out).mono ?_); rintro e w12 ⟨rfl, hb⟩; refine ⟨_, rfl, ?_⟩; have n0_ := Aside0.mk (blk_below (g := gb108) (o := .cells (⟨Arr.arL .i8 a0_0⟩ : Array Value) 25 (0, 0)) (by (with_reducible repeat (first | refine blk_drewN ?_ _ | refine blk_drew ?_ | refine blk_alloc ?_ _)); exact BK108.out) hb); have n1_ := Aside0.mk (blk_below (g := gb109) (o := .cells (⟨Arr.arL .i8 a1_0⟩ : Array Value) 25 (0, 0)) (by (with_reducible repeat (first | refine blk_drewN ?_ _ | refine blk_drew ?_ | refine blk_alloc ?_ _)); exact BK109.out) hb); have n2_ := Aside0.mk (below_step (by repeat (first | (with_reducible first | exact HB.out | apply below_alloc | apply pw_below_drewN | apply below_drew1 | refine below_set ?_ GE108.out | refine below_set ?_ GE109.out) | exact HB.out)) hb); clear BK108; clear BK109; clear HB; have BK108 := n0_; have BK109 := n1_; have HB := n2_; clear n0_ n1_ n2_; (try clear hb); (try clear hb2); (try clear hk); (try clear hi)) | ((with_reducible refine Arr.gate_load (t := 25) (p := 4) rfl ?_); (try (refine gate_guard (by rfl) ?_; dsimp only)); refine Arr.loadA ?hg (T := 25) (p := 4) ?ho (g := gb109) (off := 0) ?hx (t := 25) (l := (Arr.arL .i8 a1_0)) (m := (Arr.arL .i8 a1_0)) (fr := (0, 0)) (show w12.heap[gb109]? = some (.cells (⟨Arr.arL .i8 a1_0⟩ : Array Value) 25 (0, 0)) from by (with_reducible repeat (first | refine blk_drewN ?_ _ | refine blk_drew ?_ | refine blk_alloc ?_ _)); exact BK109.out) rfl Try.underlying25 rfl (n := 16) (by kernel_rfl) (by simp [Arr.arL_length]) ?_; (case hg => rfl); (case ho => rfl); (case hx => first | rfl | (go_simp; done) | (go_simp; rfl))) | (go_at_call 48; (with_reducible refine (spec_l01Grain.calls k a1_0 t111 _ A11.out).mono ?_); rintro e w13 ⟨rfl, hb⟩; have n0_ := Aside0.mk (blk_below (g := gb108) (o := .cells (⟨Arr.arL .i8 a0_0⟩ : Array Value) 25 (0, 0)) (by (with_reducible repeat (first | refine blk_drewN ?_ _ | refine blk_drew ?_ | refine blk_alloc ?_ _)); exact BK108.out) hb); have n1_ := Aside0.mk (blk_below (g := gb109) (o := .cells (⟨Arr.arL .i8 a1_0⟩ : Array Value) 25 (0, 0)) (by (with_reducible repeat (first | refine blk_drewN ?_ _ | refine blk_drew ?_ | refine blk_alloc ?_ _)); exact BK109.out) hb); have n2_ := Aside0.mk (below_step (by repeat (first | (with_reducible first | exact HB.out | apply below_alloc | apply pw_below_drewN | apply below_drew1 | refine below_set ?_ GE108.out | refine below_set ?_ GE109.out) | exact HB.out)) hb); clear BK108; clear BK109; clear HB; have BK108 := n0_; have BK109 := n1_; have HB := n2_; clear n0_ n1_ n2_; (try clear hb); (try clear hb2); (try clear hk); (try clear hi)))
      go_meet
      case rel => exact ⟨_, (!t111), (by first | rfl | (simp; done) | (simp [*]; done)), H', ⟨by first | omega | exact Nat.le_refl _⟩, ⟨by (with_reducible repeat (first | refine blk_drewN ?_ _ | refine blk_drew ?_ | refine blk_alloc ?_ _)); exact BK108.out⟩, ⟨by (with_reducible repeat (first | refine blk_drewN ?_ _ | refine blk_drew ?_ | refine blk_alloc ?_ _)); exact BK109.out⟩, ⟨by repeat (first | (with_reducible first | exact HB.out | apply below_alloc | apply pw_below_drewN | apply below_drew1 | refine below_set ?_ GE108.out | refine below_set ?_ GE109.out) | exact HB.out)⟩⟩
    · replace c9 := Bool.eq_false_iff.mpr c9
      subst c9
      have H1 : (spec_FitsGrain.j0 k a2 true a0_0 a1_0) = some (r1, r2) := by rw [if_neg (show ¬ (false = true) by decide)] at H; exact H
      clear H
      have H := H1
      clear H1
      have H' := Aside0.mk H
      clear H
      go_wp2_with (first | ((with_reducible refine Arr.gate_load (t := 25) (p := 3) rfl ?_); (try (refine gate_guard (by rfl) ?_; dsimp only)); refine Arr.loadA ?hg (T := 25) (p := 3) ?ho (g := gb108) (off := 0) ?hx (t := 25) (l := (Arr.arL .i8 a0_0)) (m := (Arr.arL .i8 a0_0)) (fr := (0, 0)) (show w6.heap[gb108]? = some (.cells (⟨Arr.arL .i8 a0_0⟩ : Array Value) 25 (0, 0)) from by (with_reducible repeat (first | refine blk_drewN ?_ _ | refine blk_drew ?_ | refine blk_alloc ?_ _)); exact BK108.out) rfl Try.underlying25 rfl (n := 16) (by kernel_rfl) (by simp [Arr.arL_length]) ?_; (case hg => rfl); (case ho => rfl); (case hx => first | rfl | (go_simp; done) | (go_simp; rfl))) | ((with_reducible refine gate_callee (f := 48) rfl ?_); refine goesL_ (some 9) rfl rfl Try.func48 (by kernel_rfl) rfl #[.agg (⟨Arr.arL .i8 a0_0⟩ : Array Value)] rfl (by (try simp only [List.map_toArray, List.map_cons, List.map_nil]); first | done | rfl | (simp only [List.length_drop, List.length_take]; rfl)) ?_; (with_reducible refine (spec_l01Grain.calls k a0_0 false _ A8.out).mono ?_); rintro e w14 ⟨rfl, hb⟩; refine ⟨_, rfl, ?_⟩; have n0_ := Aside0.mk (blk_below (g := gb108) (o := .cells (⟨Arr.arL .i8 a0_0⟩ : Array Value) 25 (0, 0)) (by (with_reducible repeat (first | refine blk_drewN ?_ _ | refine blk_drew ?_ | refine blk_alloc ?_ _)); exact BK108.out) hb); have n1_ := Aside0.mk (blk_below (g := gb109) (o := .cells (⟨Arr.arL .i8 a1_0⟩ : Array Value) 25 (0, 0)) (by (with_reducible repeat (first | refine blk_drewN ?_ _ | refine blk_drew ?_ | refine blk_alloc ?_ _)); exact BK109.out) hb); have n2_ := Aside0.mk (below_step (by repeat (first | (with_reducible first | exact HB.out | apply below_alloc | apply pw_below_drewN | apply below_drew1 | refine below_set ?_ GE108.out | refine below_set ?_ GE109.out) | exact HB.out)) hb); clear BK108; clear BK109; clear HB; have BK108 := n0_; have BK109 := n1_; have HB := n2_; clear n0_ n1_ n2_; (try clear hb); (try clear hb2); (try clear hk); (try clear hi)))
      go_meet
      case rel => exact ⟨_, (true), (by first | rfl | (simp; done) | (simp [*]; done)), H', ⟨by first | omega | exact Nat.le_refl _⟩, ⟨by (with_reducible repeat (first | refine blk_drewN ?_ _ | refine blk_drew ?_ | refine blk_alloc ?_ _)); exact BK108.out⟩, ⟨by (with_reducible repeat (first | refine blk_drewN ?_ _ | refine blk_drew ?_ | refine blk_alloc ?_ _)); exact BK109.out⟩, ⟨by repeat (first | (with_reducible first | exact HB.out | apply below_alloc | apply pw_below_drewN | apply below_drew1 | refine below_set ?_ GE108.out | refine below_set ?_ GE109.out) | exact HB.out)⟩⟩
  case rest =>
    clear HC4
    try clear c2
    try clear p2
    try clear c4
    try clear c9
    obtain ⟨kq, x15_3, rfl, HA, HJ3, BK108, BK109, HB⟩ := hcut
    cases kq with
    | zero => exact absurd HA.out (by simp [spec_FitsGrain.j0])
    | succ kj3 =>
      have H := HA.out
      clear HA
      simp only [spec_FitsGrain.j0] at H
      by_cases c15 : x15_3 = true
      · subst c15
        have H1 : (some (false, 1)) = some (r1, r2) := by rw [if_pos rfl] at H; exact H
        clear H
        have H := H1
        clear H1
        simp only [Option.some.injEq, Prod.mk.injEq] at H
        obtain ⟨rfl, rfl⟩ := H
        go_wp2
        go_ret2
        exact ⟨by first | rfl | (simp [errW_none, errW_some] <;> rfl) | (simp [*, errW_none, errW_some] <;> rfl), by repeat (first | (with_reducible first | exact HB.out | apply below_alloc | apply pw_below_drewN | apply below_drew1 | refine below_set ?_ GE108.out | refine below_set ?_ GE109.out) | exact HB.out)⟩
      · replace c15 := Bool.eq_false_iff.mpr c15
        subst c15
        have H1 : ((spec_l00In.f a2 0 16).bind fun t112 => (if t112 = true then ((spec_l01FitsGrain.f kj3 a0_0 a1_0 a2).bind fun t113 => (some (t113, 0))) else (some (false, 2)))) = some (r1, r2) := by rw [if_neg (show ¬ (false = true) by decide)] at H; exact H
        clear H
        have H := H1
        clear H1
        replace H := Option.bind_eq_some_iff.mp H
        obtain ⟨t112, A160, H⟩ := H
        replace H : (if t112 = true then ((spec_l01FitsGrain.f kj3 a0_0 a1_0 a2).bind fun t113 => (some (t113, 0))) else (some (false, 2))) = some (r1, r2) := H
        have A16 := Aside0.mk A160
        clear A160
        by_cases c17 : t112 = true
        · subst c17
          have H1 : ((spec_l01FitsGrain.f kj3 a0_0 a1_0 a2).bind fun t113 => (some (t113, 0))) = some (r1, r2) := by rw [if_pos rfl] at H; exact H
          clear H
          have H := H1
          clear H1
          replace H := Option.bind_eq_some_iff.mp H
          obtain ⟨t113, A200, H⟩ := H
          replace H : (some (t113, 0)) = some (r1, r2) := H
          have A20 := Aside0.mk A200
          clear A200
          simp only [Option.some.injEq, Prod.mk.injEq] at H
          obtain ⟨rfl, rfl⟩ := H
          go_wp2_with (first | ((with_reducible refine gate_callee (f := 52) rfl ?_); refine goesL_ (some 17) rfl rfl Try.func52 (by kernel_rfl) rfl #[.int .i64 a2, .int .i64 0, .int .i64 16] rfl (by (try simp only [List.map_toArray, List.map_cons, List.map_nil]); first | done | rfl | (simp only [List.length_drop, List.length_take]; rfl)) ?_; (with_reducible refine (spec_l00In.calls a2 0 16 true _ A16.out).mono ?_); rintro e w' ⟨rfl, ⟨nd, rfl⟩⟩; refine ⟨_, rfl, ?_⟩) | ((with_reducible refine Arr.gate_load (t := 25) (p := 3) rfl ?_); (try (refine gate_guard (by rfl) ?_; dsimp only)); refine Arr.loadA ?hg (T := 25) (p := 3) ?ho (g := gb108) (off := 0) ?hx (t := 25) (l := (Arr.arL .i8 a0_0)) (m := (Arr.arL .i8 a0_0)) (fr := (0, 0)) (show wc.heap[gb108]? = some (.cells (⟨Arr.arL .i8 a0_0⟩ : Array Value) 25 (0, 0)) from by (with_reducible repeat (first | refine blk_drewN ?_ _ | refine blk_drew ?_ | refine blk_alloc ?_ _)); exact BK108.out) rfl Try.underlying25 rfl (n := 16) (by kernel_rfl) (by simp [Arr.arL_length]) ?_; (case hg => rfl); (case ho => rfl); (case hx => first | rfl | (go_simp; done) | (go_simp; rfl))) | ((with_reducible refine Arr.gate_load (t := 25) (p := 4) rfl ?_); (try (refine gate_guard (by rfl) ?_; dsimp only)); refine Arr.loadA ?hg (T := 25) (p := 4) ?ho (g := gb109) (off := 0) ?hx (t := 25) (l := (Arr.arL .i8 a1_0)) (m := (Arr.arL .i8 a1_0)) (fr := (0, 0)) (show wc.heap[gb109]? = some (.cells (⟨Arr.arL .i8 a1_0⟩ : Array Value) 25 (0, 0)) from by (with_reducible repeat (first | refine blk_drewN ?_ _ | refine blk_drew ?_ | refine blk_alloc ?_ _)); exact BK109.out) rfl Try.underlying25 rfl (n := 16) (by kernel_rfl) (by simp [Arr.arL_length]) ?_; (case hg => rfl); (case ho => rfl); (case hx => first | rfl | (go_simp; done) | (go_simp; rfl))) | ((with_reducible refine gate_callee (f := 53) rfl ?_); refine goesL_ (some 22) rfl rfl Try.func53 (by kernel_rfl) rfl #[.agg (⟨Arr.arL .i8 a0_0⟩ : Array Value), .agg (⟨Arr.arL .i8 a1_0⟩ : Array Value), .int .i64 a2] rfl (by (try simp only [List.map_toArray, List.map_cons, List.map_nil]); first | done | rfl | (simp only [List.length_drop, List.length_take]; rfl)) ?_; (with_reducible refine (spec_l01FitsGrain.calls kj3 a0_0 a1_0 a2 t113 _ A20.out).mono ?_); rintro e w21 ⟨rfl, hb⟩; refine ⟨_, rfl, ?_⟩; have n0_ := Aside0.mk (blk_below (g := gb108) (o := .cells (⟨Arr.arL .i8 a0_0⟩ : Array Value) 25 (0, 0)) (by (with_reducible repeat (first | refine blk_drewN ?_ _ | refine blk_drew ?_ | refine blk_alloc ?_ _)); exact BK108.out) hb); have n1_ := Aside0.mk (blk_below (g := gb109) (o := .cells (⟨Arr.arL .i8 a1_0⟩ : Array Value) 25 (0, 0)) (by (with_reducible repeat (first | refine blk_drewN ?_ _ | refine blk_drew ?_ | refine blk_alloc ?_ _)); exact BK109.out) hb); have n2_ := Aside0.mk (below_step (by repeat (first | (with_reducible first | exact HB.out | apply below_alloc | apply pw_below_drewN | apply below_drew1 | refine below_set ?_ GE108.out | refine below_set ?_ GE109.out) | exact HB.out)) hb); clear BK108; clear BK109; clear HB; have BK108 := n0_; have BK109 := n1_; have HB := n2_; clear n0_ n1_ n2_; (try clear hb); (try clear hb2); (try clear hk); (try clear hi)))
          go_ret2
          exact ⟨by first | rfl | (simp [errW_none, errW_some] <;> rfl) | (simp [*, errW_none, errW_some] <;> rfl), by repeat (first | (with_reducible first | exact HB.out | apply below_alloc | apply pw_below_drewN | apply below_drew1 | refine below_set ?_ GE108.out | refine below_set ?_ GE109.out) | exact HB.out)⟩
        · replace c17 := Bool.eq_false_iff.mpr c17
          subst c17
          have H1 : (some (false, 2)) = some (r1, r2) := by rw [if_neg (show ¬ (false = true) by decide)] at H; exact H
          clear H
          have H := H1
          clear H1
          simp only [Option.some.injEq, Prod.mk.injEq] at H
          obtain ⟨rfl, rfl⟩ := H
          go_wp2_with (first | ((with_reducible refine gate_callee (f := 52) rfl ?_); refine goesL_ (some 17) rfl rfl Try.func52 (by kernel_rfl) rfl #[.int .i64 a2, .int .i64 0, .int .i64 16] rfl (by (try simp only [List.map_toArray, List.map_cons, List.map_nil]); first | done | rfl | (simp only [List.length_drop, List.length_take]; rfl)) ?_; (with_reducible refine (spec_l00In.calls a2 0 16 false _ A16.out).mono ?_); rintro e w' ⟨rfl, ⟨nd, rfl⟩⟩; refine ⟨_, rfl, ?_⟩))
          go_ret2
          exact ⟨by first | rfl | (simp [errW_none, errW_some] <;> rfl) | (simp [*, errW_none, errW_some] <;> rfl), by repeat (first | (with_reducible first | exact HB.out | apply below_alloc | apply pw_below_drewN | apply below_drew1 | refine below_set ?_ GE108.out | refine below_set ?_ GE109.out) | exact HB.out)⟩

/-! ### impl_ValidGrain: function 17 -/
def impl_ValidGrain.l0 : Nat → Int → Vector Int 16 → Option (Bool)
  | 0, _, _ => none
  | k + 1, x6, x501 => if x6 < 16 then (if 0 ≤ x6 then (if (Arr.vrd x501 x6) < (-3) then (some false) else (if (Arr.vrd x501 x6) > 3 then (some false) else (impl_ValidGrain.l0 k (wrap64 (x6 + 1)) x501))) else (none)) else (some true)
def impl_ValidGrain.f (k : Nat) (a0_0 : Vector Int 16) : Option (Bool) := impl_ValidGrain.l0 k 0 a0_0
theorem impl_ValidGrain.mono_l : ∀ k, (∀ y0 y1, LeO (impl_ValidGrain.l0 k y0 y1) (impl_ValidGrain.l0 (k + 1) y0 y1))
  | 0 => fun _ _ r h => by simp [impl_ValidGrain.l0] at h
  | k + 1 => by
    have ih0 := impl_ValidGrain.mono_l k
    · intro y0 y1
      unfold impl_ValidGrain.l0
      repeat' first
      | (with_reducible exact ih0 _ _)
      | (with_reducible exact LeO.refl _)
      | (with_reducible exact LeO.none _)
      | (with_reducible refine LeO.ite ?_ ?_)
      | (with_reducible refine LeO.bind ?_ (fun _ => ?_))
      | exact ih0 _ _
      | exact LeO.none _
      | refine LeO.ite ?_ ?_
      | refine LeO.bind ?_ (fun _ => ?_)
theorem impl_ValidGrain.mono : ∀ a0 k, LeO (impl_ValidGrain.f k a0) (impl_ValidGrain.f (k + 1) a0) := by
  intro a0 k
  have ih0 := impl_ValidGrain.mono_l k
  unfold impl_ValidGrain.f
  repeat' first
      | (with_reducible exact ih0 _ _)
      | (with_reducible exact LeO.refl _)
      | (with_reducible exact LeO.none _)
      | (with_reducible refine LeO.ite ?_ ?_)
      | (with_reducible refine LeO.bind ?_ (fun _ => ?_))
      | exact ih0 _ _
      | exact LeO.none _
      | refine LeO.ite ?_ ?_
      | refine LeO.bind ?_ (fun _ => ?_)
set_option maxHeartbeats 8000000 in
set_option maxRecDepth 100000 in
theorem impl_ValidGrain.calls (k : Nat) (a0_0 : Vector Int 16) (r : Bool) (w : World) (h : impl_ValidGrain.f k a0_0 = some r) :
    Calls Try.prog 17 #[.agg (⟨Arr.arL .i8 a0_0⟩ : Array Value)] w fun e w' => e = .returned (.bool r) ∧ Below w.heap.size w w' := by
  have hu25 := Try.underlying25
  have HB := Aside0.mk (Below.refl w.heap.size w)
  have H : (impl_ValidGrain.l0 k 0 a0_0) = some r := h
  clear h
  have H' := Aside0.mk H
  clear H
  go_enter Try.func17, Try.ntmps17
  go_wp2_with (first | ((with_reducible refine gate_dst (N := 1) rfl ?_); refine box_event ?hg (N := 1) ?hd (cs := (⟨Arr.arL .i8 a0_0⟩ : Array Value)) (t := 25) ?hr ?_; (case hd => rfl); (case hg => rfl); (case hr => first | (go_simp; done) | (go_simp; rfl)); intro gb114 hg w3 hbox hb; have n0_ := Aside0.mk (below_step (by repeat (first | (with_reducible first | exact HB.out | apply below_alloc | apply pw_below_drewN | apply below_drew1) | exact HB.out)) hb); have n1_ := Aside0.mk (hbox); have n2_ := Aside0.mk ((by rw [hg]; exact (below_size (by repeat (first | (with_reducible first | exact HB.out | apply below_alloc | apply pw_below_drewN | apply below_drew1) | exact HB.out))) : w.heap.size ≤ gb114)); have n3_ := Aside0.mk ((by rw [hg]; exact (below_size (by repeat (first | (with_reducible first | exact HB.out | apply below_alloc | apply pw_below_drewN | apply below_drew1) | exact HB.out))) : w.heap.size ≤ gb114)); clear HB; have HB := n0_; have BK114 := n1_; have GW114 := n2_; have GE114 := n3_; clear n0_ n1_ n2_ n3_; clear hb hbox hg) | ((with_reducible refine Arr.gate_load (t := 25) (p := 1) rfl ?_); (try (refine gate_guard (by rfl) ?_; dsimp only)); refine Arr.loadA ?hg (T := 25) (p := 1) ?ho (g := gb114) (off := 0) ?hx (t := 25) (l := (Arr.arL .i8 a0_0)) (m := (Arr.arL .i8 a0_0)) (fr := (0, 0)) (show w3.heap[gb114]? = some (.cells (⟨Arr.arL .i8 a0_0⟩ : Array Value) 25 (0, 0)) from by (with_reducible repeat (first | refine blk_drewN ?_ _ | refine blk_drew ?_ | refine blk_alloc ?_ _)); exact BK114.out) rfl Try.underlying25 rfl (n := 16) (by kernel_rfl) (by simp [Arr.arL_length]) ?_; (case hg => rfl); (case ho => rfl); (case hx => first | rfl | (go_simp; done) | (go_simp; rfl))))
  go_loopg [6] k (fun kq v6 w' => ∃ (x6_1 : Int), v6 = .int .i64 x6_1 ∧ Aside0 (impl_ValidGrain.l0 kq x6_1 a0_0 = some r) ∧ Aside0 (kq ≤ k) ∧ Aside0 (w'.heap[gb114]? = some (.cells (⟨Arr.arL .i8 a0_0⟩ : Array Value) 25 (0, 0))) ∧ Aside0 (Below w.heap.size w w'))
  case atStart => exact ⟨(0), (by first | rfl | (simp; done) | (simp [*]; done)), H', ⟨Nat.le_refl _⟩, ⟨by (with_reducible repeat (first | refine blk_drewN ?_ _ | refine blk_drew ?_ | refine blk_alloc ?_ _)); exact BK114.out⟩, ⟨by repeat (first | (with_reducible first | exact HB.out | apply below_alloc | apply pw_below_drewN | apply below_drew1 | refine below_set ?_ GE114.out) | exact HB.out)⟩⟩
  case round =>
    clear H'
    try clear c1
    try clear p2
    obtain ⟨x6_1, rfl, HA, HK1, BK114, HB⟩ := hrel
    cases gk with
    | zero => exact absurd HA.out (by simp [impl_ValidGrain.l0])
    | succ k1 =>
      have H := HA.out
      clear HA
      simp only [impl_ValidGrain.l0] at H
      by_cases c4 : x6_1 < 16
      · rw [if_pos c4] at H
        have c4b0 : decide (x6_1 < 16) = true := decide_eq_true c4
        clear c4
        by_cases c5 : 0 ≤ x6_1
        · rw [if_pos c5] at H
          have c5b0 : decide (0 ≤ x6_1) = true := decide_eq_true c5
          clear c5
          by_cases c7 : (Arr.vrd a0_0 x6_1) < (-3)
          · rw [if_pos c7] at H
            have c7b0 : decide ((Arr.vrd a0_0 x6_1) < (-3)) = true := decide_eq_true c7
            clear c7
            obtain rfl := Option.some.inj H
            have hx6 := fun W_ => Arr.index_arr (P := Try.prog) (w := W_) Try.underlying25 Try.underlying22 (by kernel_rfl) (by kernel_rfl) a0_0 x6_1 .i64 (of_decide_eq_true (by first | (with_reducible assumption) | assumption)) (of_decide_eq_true (by first | (with_reducible assumption) | assumption))
            have p6 : 0 ≤ (x6_1 : Int) := of_decide_eq_true (by first | (with_reducible assumption) | assumption)
            have q6 : (x6_1 : Int) < 16 := of_decide_eq_true (by first | (with_reducible assumption) | assumption)
            replace p6 := eq_true p6
            replace q6 := eq_true q6
            go_wp2
            go_ret
            exact ⟨by first | rfl | (simp [errW_none, errW_some] <;> rfl) | (simp [*, errW_none, errW_some] <;> rfl), by repeat (first | (with_reducible first | exact HB.out | apply below_alloc | apply pw_below_drewN | apply below_drew1 | refine below_set ?_ GE114.out) | exact HB.out)⟩
          · rw [if_neg c7] at H
            have c7b0 : decide ((Arr.vrd a0_0 x6_1) < (-3)) = false := decide_eq_false c7
            clear c7
            by_cases c8 : (Arr.vrd a0_0 x6_1) > 3
            · rw [if_pos c8] at H
              have c8b0 : decide (3 < (Arr.vrd a0_0 x6_1)) = true := decide_eq_true c8
              clear c8
              obtain rfl := Option.some.inj H
              have hx6 := fun W_ => Arr.index_arr (P := Try.prog) (w := W_) Try.underlying25 Try.underlying22 (by kernel_rfl) (by kernel_rfl) a0_0 x6_1 .i64 (of_decide_eq_true (by first | (with_reducible assumption) | assumption)) (of_decide_eq_true (by first | (with_reducible assumption) | assumption))
              have p6 : 0 ≤ (x6_1 : Int) := of_decide_eq_true (by first | (with_reducible assumption) | assumption)
              have q6 : (x6_1 : Int) < 16 := of_decide_eq_true (by first | (with_reducible assumption) | assumption)
              replace p6 := eq_true p6
              replace q6 := eq_true q6
              go_wp2
              go_ret
              exact ⟨by first | rfl | (simp [errW_none, errW_some] <;> rfl) | (simp [*, errW_none, errW_some] <;> rfl), by repeat (first | (with_reducible first | exact HB.out | apply below_alloc | apply pw_below_drewN | apply below_drew1 | refine below_set ?_ GE114.out) | exact HB.out)⟩
            · rw [if_neg c8] at H
              have c8b0 : decide (3 < (Arr.vrd a0_0 x6_1)) = false := decide_eq_false c8
              clear c8
              have H' := Aside0.mk H
              clear H
              have hx6 := fun W_ => Arr.index_arr (P := Try.prog) (w := W_) Try.underlying25 Try.underlying22 (by kernel_rfl) (by kernel_rfl) a0_0 x6_1 .i64 (of_decide_eq_true (by first | (with_reducible assumption) | assumption)) (of_decide_eq_true (by first | (with_reducible assumption) | assumption))
              have p6 : 0 ≤ (x6_1 : Int) := of_decide_eq_true (by first | (with_reducible assumption) | assumption)
              have q6 : (x6_1 : Int) < 16 := of_decide_eq_true (by first | (with_reducible assumption) | assumption)
              replace p6 := eq_true p6
              replace q6 := eq_true q6
              go_wp2
              go_roundg k1
              case measure => have := HK1.out; omega
              case rel => exact ⟨(wrap64 (x6_1 + 1)), (by first | rfl | (simp; done) | (simp [*]; done)), H', ⟨by have := HK1.out; omega⟩, ⟨by (with_reducible repeat (first | refine blk_drewN ?_ _ | refine blk_drew ?_ | refine blk_alloc ?_ _)); exact BK114.out⟩, ⟨by repeat (first | (with_reducible first | exact HB.out | apply below_alloc | apply pw_below_drewN | apply below_drew1 | refine below_set ?_ GE114.out) | exact HB.out)⟩⟩
        · rw [if_neg c5] at H
          exact absurd H (by simp)
      · rw [if_neg c4] at H
        have c4b0 : decide (x6_1 < 16) = false := decide_eq_false c4
        clear c4
        obtain rfl := Option.some.inj H
        go_wp2
        go_ret
        exact ⟨by first | rfl | (simp [errW_none, errW_some] <;> rfl) | (simp [*, errW_none, errW_some] <;> rfl), by repeat (first | (with_reducible first | exact HB.out | apply below_alloc | apply pw_below_drewN | apply below_drew1 | refine below_set ?_ GE114.out) | exact HB.out)⟩

/-! ### impl_isWear: function 54 -/
def impl_isWear.f (a0 : Int) : Option (Bool) := if a0 ≥ 0 then (some (decide (a0 ≤ 16))) else (some false)
set_option maxHeartbeats 8000000 in
set_option maxRecDepth 100000 in
theorem impl_isWear.calls (a0 : Int) (r : Bool) (w : World) (h : impl_isWear.f a0 = some r) :
    Calls Try.prog 54 #[.int .i64 a0] w fun e w' => e = .returned (.bool r) ∧ Drawn0 w w' := by
  have H : (if a0 ≥ 0 then (some (decide (a0 ≤ 16))) else (some false)) = some r := h
  clear h
  by_cases c2 : a0 ≥ 0
  · rw [if_pos c2] at H
    have c2b0 : decide (0 ≤ a0) = true := decide_eq_true c2
    clear c2
    obtain rfl := Option.some.inj H
    go_enter Try.func54, Try.ntmps54
    go_wp2
    go_ret
    exact ⟨by first | rfl | (simp; done) | (simp [*]; done), by repeat (first | exact Drawn0.refl _ | apply Drawn0.step)⟩
  · rw [if_neg c2] at H
    have c2b0 : decide (0 ≤ a0) = false := decide_eq_false c2
    clear c2
    obtain rfl := Option.some.inj H
    go_enter Try.func54, Try.ntmps54
    go_wp2
    go_ret
    exact ⟨by first | rfl | (simp; done) | (simp [*]; done), by repeat (first | exact Drawn0.refl _ | apply Drawn0.step)⟩

end Go.Proofs.Ytgkohbjphajgoaa.MFitsGrain
