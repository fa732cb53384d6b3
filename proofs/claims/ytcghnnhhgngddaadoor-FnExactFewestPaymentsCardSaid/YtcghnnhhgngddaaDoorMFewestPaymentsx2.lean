-- by a program of this session, for this claim
import Derived.Test.YtcghnnhhgngddaaDoorMFewestPaymentsx0
import Derived.Test.YtcghnnhhgngddaaDoorMFewestPaymentsx1
namespace Go.Proofs.YtcghnnhhgngddaaDoor.MFewestPayments
open Go.RowKit Go.Proofs.YtcghnnhhgngddaaDoorW.PrintWords Go.Proofs.YtcghnnhhgngddaaDoorW.PrintLast Go.Proofs.YtcghnnhhgngddaaDoorW.PrintMore
attribute [local go_sem] max2_int min2_int max_two min_two max_three min_three max_four min_four   -- for this text's walks alone
set_option linter.unusedVariables false
set_option linter.unusedSimpArgs false

/-! ### spec_l02Groups: function 24 -/
mutual
def spec_l02Groups.l0 : Nat → List Int → List Int → Int → Int → Int → Option (List Int)
  | 0, _, _, _, _, _ => none
  | k + 1, x0, x1, x5, x6, x7 => if x7 < x5 then (spec_l02Groups.l0 k x0 x1 x5 (wrap64 (2 * x6)) (wrap64 (x7 + 1))) else (if 0 ≤ x6 then (if (x6 : Int).toNat ≤ 35184372088832 then (spec_l02Groups.l1 k x0 x1 x5 x6 (List.replicate (x6 : Int).toNat 0) 1) else (none)) else (none))
def spec_l02Groups.l1 : Nat → List Int → List Int → Int → Int → List Int → Int → Option (List Int)
  | 0, _, _, _, _, _, _ => none
  | k + 1, x0, x1, x5, x6, x8, x9 => if x9 < x6 then (spec_l02Groups.l2 k x0 x1 x5 x6 x8 x9 0 0) else (some x8)
def spec_l02Groups.l2 : Nat → List Int → List Int → Int → Int → List Int → Int → Int → Int → Option (List Int)
  | 0, _, _, _, _, _, _, _, _ => none
  | k + 1, x0, x1, x5, x6, x8, x9, x10, x11 => if x11 < x5 then (if 0 ≤ (IntKind.u64.wrap (x11)) then (if (Int.tmod (shr .i64 x9 (IntKind.u64.wrap (x11))) 2) = 1 then (if 0 ≤ x11 then (if x11 < (x1.length : Int) then (if 0 ≤ (rd x1 x11) then (if (rd x1 x11) < (x0.length : Int) then (spec_l02Groups.l2 k x0 x1 x5 x6 x8 x9 (wrap64 (x10 + (rd x0 (rd x1 x11)))) (wrap64 (x11 + 1))) else (none)) else (none)) else (none)) else (none)) else (spec_l02Groups.l2 k x0 x1 x5 x6 x8 x9 x10 (wrap64 (x11 + 1)))) else (none)) else (if 0 ≤ x9 then (if x9 < (x8.length : Int) then ((some (x8.set (x9 : Int).toNat (-1) : List Int)).bind fun y124 => (if x10 = 0 then (spec_l02Groups.l3 k x0 x1 x5 x6 (y124.set (x9 : Int).toNat 1) x9 (Go.bits .and .i64 (wrap64 (x9 - 1)) x9)) else (spec_l02Groups.l1 k x0 x1 x5 x6 y124 (wrap64 (x9 + 1))))) else (none)) else (none))
def spec_l02Groups.l3 : Nat → List Int → List Int → Int → Int → List Int → Int → Int → Option (List Int)
  | 0, _, _, _, _, _, _, _ => none
  | k + 1, x0, x1, x5, x6, x8, x9, x12 => if x12 > 0 then (if 0 ≤ x12 then (if x12 < (x8.length : Int) then (if (rd x8 x12) > 0 then (if 0 ≤ (wrap64 (x9 - x12)) then (if (wrap64 (x9 - x12)) < (x8.length : Int) then (if (rd x8 (wrap64 (x9 - x12))) > 0 then (if 0 ≤ x9 then (if x9 < (x8.length : Int) then ((spec_l00Max.f (rd x8 x9) (wrap64 ((rd x8 x12) + (rd x8 (wrap64 (x9 - x12)))))).bind fun t131 => (spec_l02Groups.l3 k x0 x1 x5 x6 (x8.set (x9 : Int).toNat t131) x9 (Go.bits .and .i64 (wrap64 (x12 - 1)) x9))) else (none)) else (none)) else (spec_l02Groups.l3 k x0 x1 x5 x6 x8 x9 (Go.bits .and .i64 (wrap64 (x12 - 1)) x9))) else (none)) else (none)) else (spec_l02Groups.l3 k x0 x1 x5 x6 x8 x9 (Go.bits .and .i64 (wrap64 (x12 - 1)) x9))) else (none)) else (none)) else (spec_l02Groups.l1 k x0 x1 x5 x6 x8 (wrap64 (x9 + 1)))
end
def spec_l02Groups.f (k : Nat) (l0 : List Int) (l1 : List Int) : Option (List Int) := spec_l02Groups.l0 k l0 l1 (l1.length : Int) 1 0
theorem spec_l02Groups.mono_l : ∀ k, (∀ y0 y1 y2 y3 y4, LeO (spec_l02Groups.l0 k y0 y1 y2 y3 y4) (spec_l02Groups.l0 (k + 1) y0 y1 y2 y3 y4)) ∧ (∀ y0 y1 y2 y3 y4 y5, LeO (spec_l02Groups.l1 k y0 y1 y2 y3 y4 y5) (spec_l02Groups.l1 (k + 1) y0 y1 y2 y3 y4 y5)) ∧ (∀ y0 y1 y2 y3 y4 y5 y6 y7, LeO (spec_l02Groups.l2 k y0 y1 y2 y3 y4 y5 y6 y7) (spec_l02Groups.l2 (k + 1) y0 y1 y2 y3 y4 y5 y6 y7)) ∧ (∀ y0 y1 y2 y3 y4 y5 y6, LeO (spec_l02Groups.l3 k y0 y1 y2 y3 y4 y5 y6) (spec_l02Groups.l3 (k + 1) y0 y1 y2 y3 y4 y5 y6))
  | 0 => ⟨fun _ _ _ _ _ r h => by simp [spec_l02Groups.l0] at h, fun _ _ _ _ _ _ r h => by simp [spec_l02Groups.l1] at h, fun _ _ _ _ _ _ _ _ r h => by simp [spec_l02Groups.l2] at h, fun _ _ _ _ _ _ _ r h => by simp [spec_l02Groups.l3] at h⟩
  | k + 1 => by
    obtain ⟨ih0, ih1, ih2, ih3⟩ := spec_l02Groups.mono_l k
    refine ⟨?_, ?_, ?_, ?_⟩
    · intro y0 y1 y2 y3 y4
      unfold spec_l02Groups.l0
      repeat' first
      | (with_reducible exact ih0 _ _ _ _ _)
      | (with_reducible exact ih1 _ _ _ _ _ _)
      | (with_reducible exact ih2 _ _ _ _ _ _ _ _)
      | (with_reducible exact ih3 _ _ _ _ _ _ _)
      | (with_reducible exact LeO.refl _)
      | (with_reducible exact LeO.none _)
      | (with_reducible refine LeO.ite ?_ ?_)
      | (with_reducible refine LeO.bind ?_ (fun _ => ?_))
      | exact ih0 _ _ _ _ _
      | exact ih1 _ _ _ _ _ _
      | exact ih2 _ _ _ _ _ _ _ _
      | exact ih3 _ _ _ _ _ _ _
      | exact LeO.none _
      | refine LeO.ite ?_ ?_
      | refine LeO.bind ?_ (fun _ => ?_)
    · intro y0 y1 y2 y3 y4 y5
      unfold spec_l02Groups.l1
      repeat' first
      | (with_reducible exact ih0 _ _ _ _ _)
      | (with_reducible exact ih1 _ _ _ _ _ _)
      | (with_reducible exact ih2 _ _ _ _ _ _ _ _)
      | (with_reducible exact ih3 _ _ _ _ _ _ _)
      | (with_reducible exact LeO.refl _)
      | (with_reducible exact LeO.none _)
      | (with_reducible refine LeO.ite ?_ ?_)
      | (with_reducible refine LeO.bind ?_ (fun _ => ?_))
      | exact ih0 _ _ _ _ _
      | exact ih1 _ _ _ _ _ _
      | exact ih2 _ _ _ _ _ _ _ _
      | exact ih3 _ _ _ _ _ _ _
      | exact LeO.none _
      | refine LeO.ite ?_ ?_
      | refine LeO.bind ?_ (fun _ => ?_)
    · intro y0 y1 y2 y3 y4 y5 y6 y7
      unfold spec_l02Groups.l2
      repeat' first
      | (with_reducible exact ih0 _ _ _ _ _)
      | (with_reducible exact ih1 _ _ _ _ _ _)
      | (with_reducible exact ih2 _ _ _ _ _ _ _ _)
      | (with_reducible exact ih3 _ _ _ _ _ _ _)
      | (with_reducible exact LeO.refl _)
      | (with_reducible exact LeO.none _)
      | (with_reducible refine LeO.ite ?_ ?_)
      | (with_reducible refine LeO.bind ?_ (fun _ => ?_))
      | exact ih0 _ _ _ _ _
      | exact ih1 _ _ _ _ _ _
      | exact ih2 _ _ _ _ _ _ _ _
      | exact ih3 _ _ _ _ _ _ _
      | exact LeO.none _
      | refine LeO.ite ?_ ?_
      | refine LeO.bind ?_ (fun _ => ?_)
    · intro y0 y1 y2 y3 y4 y5 y6
      unfold spec_l02Groups.l3
      repeat' first
      | (with_reducible exact ih0 _ _ _ _ _)
      | (with_reducible exact ih1 _ _ _ _ _ _)
      | (with_reducible exact ih2 _ _ _ _ _ _ _ _)
      | (with_reducible exact ih3 _ _ _ _ _ _ _)
      | (with_reducible exact LeO.refl _)
      | (with_reducible exact LeO.none _)
      | (with_reducible refine LeO.ite ?_ ?_)
      | (with_reducible refine LeO.bind ?_ (fun _ => ?_))
      | exact ih0 _ _ _ _ _
      | exact ih1 _ _ _ _ _ _
      | exact ih2 _ _ _ _ _ _ _ _
      | exact ih3 _ _ _ _ _ _ _
      | exact LeO.none _
      | refine LeO.ite ?_ ?_
      | refine LeO.bind ?_ (fun _ => ?_)
theorem spec_l02Groups.mono : ∀ a0 a1 k, LeO (spec_l02Groups.f k a0 a1) (spec_l02Groups.f (k + 1) a0 a1) := by
  intro a0 a1 k
  obtain ⟨ih0, ih1, ih2, ih3⟩ := spec_l02Groups.mono_l k
  unfold spec_l02Groups.f
  repeat' first
      | (with_reducible exact ih0 _ _ _ _ _)
      | (with_reducible exact ih1 _ _ _ _ _ _)
      | (with_reducible exact ih2 _ _ _ _ _ _ _ _)
      | (with_reducible exact ih3 _ _ _ _ _ _ _)
      | (with_reducible exact LeO.refl _)
      | (with_reducible exact LeO.none _)
      | (with_reducible refine LeO.ite ?_ ?_)
      | (with_reducible refine LeO.bind ?_ (fun _ => ?_))
      | exact ih0 _ _ _ _ _
      | exact ih1 _ _ _ _ _ _
      | exact ih2 _ _ _ _ _ _ _ _
      | exact ih3 _ _ _ _ _ _ _
      | exact LeO.none _
      | refine LeO.ite ?_ ?_
      | refine LeO.bind ?_ (fun _ => ?_)
def spec_l02Groups.T24 : Bool × List (List Nat × List Nat) := (true, [([], []), ([], []), ([], []), ([], []), ([2, 3], [2, 3]), ([4], [4]), ([], []), ([], []), ([6, 7], [6, 7]), ([8], [8]), ([], []), ([], []), ([], []), ([11, 12], [11, 12]), ([10, 13], [10, 13]), ([14], [14]), ([9, 15], [9, 15]), ([5, 16], [5, 16]), ([0, 1, 0, 1, 2, 3, 4, 5, 6, 7, 8, 9, 10, 11, 12, 13, 14, 15, 16, 17], [0, 1]), ([18, 17, 17, 0, 1, 2, 3, 4, 5, 6, 7, 8, 9, 10, 11, 12, 13, 14, 15, 16, 17], [17, 18])])
def spec_l02Groups.B24 : List Nat := [0, 0, 0, 0, 12, 28, 0, 0, 192, 448, 0, 0, 0, 6144, 15360, 31744, 65472, 131068, 262143, 524287]
theorem spec_l02Groups.tab24 : rtab .any (opsOf Tryd.f24 24) = spec_l02Groups.T24 := by kernel_rfl
theorem spec_l02Groups.bits24 : waitsOk spec_l02Groups.T24.2 spec_l02Groups.B24 = true := by kernel_rfl
set_option maxHeartbeats 8000000 in
set_option maxRecDepth 100000 in
theorem spec_l02Groups.calls (k : Nat) (A0 : Option Addr) (c0 : Nat) (l0 : List Int) (A1 : Option Addr) (c1 : Nat) (l1 : List Int) (r : List Int) (w : World) (hr0 : Kd.C (Kd.int .i64) w A0 l0.length l0) (hc0 : l0.length ≤ c0) (hr1 : Kd.C (Kd.int .i64) w A1 l1.length l1) (hc1 : l1.length ≤ c1) (h : spec_l02Groups.f k l0 l1 = some r) :
    Calls Tryd.prog 24 #[.slice A0 l0.length c0, .slice A1 l1.length c1] w fun e w' => ∃ v0_ : Value, e = .returned (v0_) ∧ Kd.R (Kd.int .i64) 2 w' w.heap.size (fun _ => True) v0_ r ∧ Below w.heap.size w w' := by
  have HR0 := Aside0.mk hr0
  have HC0 := Aside0.mk hc0
  clear hr0 hc0
  have HR1 := Aside0.mk hr1
  have HC1 := Aside0.mk hc1
  clear hr1 hc1
  have HB := Aside0.mk (Below.refl w.heap.size w)
  have H : (spec_l02Groups.l0 k l0 l1 (l1.length : Int) 1 0) = some r := h
  clear h
  have H' := Aside0.mk H
  clear H
  go_enter Tryd.func24, Tryd.ntmps24
  go_wp2
  go_loopg [6, 7] k (fun kq v6 v7 w' => ∃ (x6_1 : Int) (x7_1 : Int), v6 = .int .i64 x6_1 ∧ v7 = .int .i64 x7_1 ∧ Aside0 (spec_l02Groups.l0 kq l0 l1 (l1.length : Int) x6_1 x7_1 = some r) ∧ Aside0 (kq ≤ k) ∧ Aside0 (Below w.heap.size w w'))
  case atStart => exact ⟨(1), (0), (by first | rfl | (simp; done) | (simp [*]; done)), (by first | rfl | (simp; done) | (simp [*]; done)), H', ⟨Nat.le_refl _⟩, ⟨by repeat (first | (with_reducible first | exact HB.out | apply below_alloc | apply pw_below_drewN | apply below_drew1) | exact HB.out)⟩⟩
  case round =>
    clear H'
    try clear c1
    try clear c2
    try clear p2
    obtain ⟨x6_1, x7_1, rfl, rfl, HA, HK1, HB⟩ := hrel
    cases gk with
    | zero => exact absurd HA.out (by simp [spec_l02Groups.l0])
    | succ k1 =>
      have H := HA.out
      clear HA
      simp only [spec_l02Groups.l0] at H
      by_cases c3 : x7_1 < (l1.length : Int)
      · rw [if_pos c3] at H
        have c3b0 : decide (x7_1 < (l1.length : Int)) = true := decide_eq_true c3
        clear c3
        have H' := Aside0.mk H
        clear H
        go_wp2
        go_roundg k1
        case measure => have := HK1.out; omega
        case rel => exact ⟨(wrap64 (2 * x6_1)), (wrap64 (x7_1 + 1)), (by first | rfl | (simp; done) | (simp [*]; done)), (by first | rfl | (simp; done) | (simp [*]; done)), H', ⟨by have := HK1.out; omega⟩, ⟨by repeat (first | (with_reducible first | exact HB.out | apply below_alloc | apply pw_below_drewN | apply below_drew1) | exact HB.out)⟩⟩
      · rw [if_neg c3] at H
        have c3b0 : decide (x7_1 < (l1.length : Int)) = false := decide_eq_false c3
        clear c3
        by_cases c4 : 0 ≤ x6_1
        · rw [if_pos c4] at H
          have c4b0 := eq_true c4
          have c4b1 : decide (0 ≤ x6_1) = true := decide_eq_true c4
          clear c4
          by_cases c5 : (x6_1 : Int).toNat ≤ 35184372088832
          · rw [if_pos c5] at H
            have c5b0 := eq_true c5
            have c5b1 : decide ((x6_1 : Int).toNat ≤ 35184372088832) = true := decide_eq_true c5
            clear c5
            obtain ⟨y119, hy119⟩ : ∃ y_ : List Int, y_ = (List.replicate (x6_1 : Int).toNat 0) := ⟨_, rfl⟩
            replace H : (spec_l02Groups.l1 k1 l0 l1 (l1.length : Int) x6_1 y119 1) = some r := by first | (rw [hy119]; with_reducible exact H) | (have H2_ := (Option.bind_some _ _).symm.trans H; rw [hy119]; with_reducible exact H2_) | (have H2_ := (Option.bind_some _ _).symm.trans H; with_reducible exact H2_) | with_reducible exact H | (rw [hy119]; exact H) | exact H
            have Ny119 := Aside0.mk hy119
            clear hy119
            have H' := Aside0.mk H
            clear H
            go_wp2_with (first | ((with_reducible refine gate_dst (N := 23) rfl ?_); refine Kd.R_make (Kd.int .i64) _ 2 rfl (N := 23) rfl 22 _ _ rfl x6_1 rfl rfl Tryd.underlying22 (.int .i64 0) 8 info2 rfl (by decide) (by omega) 0 (ok := fun _ => True) (okp := fun _ => True) rfl (fun _ hk => hk) trivial (of_decide_eq_true (by first | (with_reducible assumption) | assumption)) (Nat.le_trans (Nat.mul_le_mul_right _ (of_decide_eq_true (by first | (with_reducible assumption) | assumption) : x6_1.toNat ≤ 35184372088832)) (by omega)) (Below.refl _ _) (Nat.le_refl _) ?_; intro v120 w6 ho7 hb hg_ hnew_; clear hg_ hnew_; (first | rw [← Ny119.out] at ho7 | (simp only [Int.reduceToNat] at ho7; rw [← Ny119.out] at ho7)); have n0_ := Aside0.mk (Kd.R_lower ho7 (below_size (by repeat (first | (with_reducible first | exact HB.out | apply below_alloc | apply pw_below_drewN | apply below_drew1) | exact HB.out)))); have n1_ := Aside0.mk (below_step (by repeat (first | (with_reducible first | exact HB.out | apply below_alloc | apply pw_below_drewN | apply below_drew1) | exact HB.out)) hb); clear HB; have HO121 := n0_; have HB := n1_; clear n0_ n1_; clear hb ho7))
            go_loopg [9] k1 (fun kq v9 w' => ∃ (x8_2 : List Int) (x9_2 : Int), v9 = .int .i64 x9_2 ∧ Aside0 (spec_l02Groups.l1 kq l0 l1 (l1.length : Int) x6_1 x8_2 x9_2 = some r) ∧ Aside0 (kq ≤ k1) ∧ Aside0 (Kd.R (Kd.int .i64) 2 w' w.heap.size (fun _ => True) v120 x8_2) ∧ Aside0 (Below w.heap.size w w'))
            case atStart => exact ⟨(y119), (1), (by first | rfl | (simp; done) | (simp [*]; done)), H', ⟨Nat.le_refl _⟩, ⟨by (with_reducible repeat (first | apply Kd.R_alloc | apply Kd.R_drewN | apply Kd.R_drew)); exact HO121.out⟩, ⟨by repeat (first | (with_reducible first | exact HB.out | apply below_alloc | apply pw_below_drewN | apply below_drew1) | exact HB.out)⟩⟩
            case round =>
              clear H'
              try clear c1
              try clear c2
              try clear p2
              try clear c3
              try clear c3b0
              try clear c4
              try clear c4b0
              try clear c4b1
              try clear c5
              try clear c5b0
              try clear c5b1
              try clear p6
              try clear p2
              obtain ⟨x8_2, x9_2, rfl, HA, HK2, HO_8, HB⟩ := hrel
              cases gk with
              | zero => exact absurd HA.out (by simp [spec_l02Groups.l1])
              | succ k2 =>
                have H := HA.out
                clear HA
                simp only [spec_l02Groups.l1] at H
                by_cases c8 : x9_2 < x6_1
                · rw [if_pos c8] at H
                  have c8b0 : decide (x9_2 < x6_1) = true := decide_eq_true c8
                  clear c8
                  have H' := Aside0.mk H
                  clear H
                  go_wp2
                  go_loopg [10, 11] k2 (fun kq v10 v11 w' => ∃ (x10_3 : Int) (x11_3 : Int), v10 = .int .i64 x10_3 ∧ v11 = .int .i64 x11_3 ∧ Aside0 (spec_l02Groups.l2 kq l0 l1 (l1.length : Int) x6_1 x8_2 x9_2 x10_3 x11_3 = some r) ∧ Aside0 (kq ≤ k2) ∧ Aside0 (Kd.R (Kd.int .i64) 2 w' w.heap.size (fun _ => True) v120 x8_2) ∧ Aside0 (Below w.heap.size w w'))
                  case atStart => exact ⟨(0), (0), (by first | rfl | (simp; done) | (simp [*]; done)), (by first | rfl | (simp; done) | (simp [*]; done)), H', ⟨Nat.le_refl _⟩, ⟨by (with_reducible repeat (first | apply Kd.R_alloc | apply Kd.R_drewN | apply Kd.R_drew)); exact HO_8.out⟩, ⟨by repeat (first | (with_reducible first | exact HB.out | apply below_alloc | apply pw_below_drewN | apply below_drew1) | exact HB.out)⟩⟩
                  case round =>
                    clear H'
                    try clear c1
                    try clear c2
                    try clear p2
                    try clear c3
                    try clear c3b0
                    try clear c4
                    try clear c4b0
                    try clear c4b1
                    try clear c5
                    try clear c5b0
                    try clear c5b1
                    try clear p6
                    try clear c8
                    try clear c8b0
                    try clear p2
                    try clear p6
                    obtain ⟨x10_3, x11_3, rfl, rfl, HA, HK3, HO_8, HB⟩ := hrel
                    cases gk with
                    | zero => exact absurd HA.out (by simp [spec_l02Groups.l2])
                    | succ k3 =>
                      have H := HA.out
                      clear HA
                      simp only [spec_l02Groups.l2] at H
                      by_cases c9 : x11_3 < (l1.length : Int)
                      · rw [if_pos c9] at H
                        have c9b0 : decide (x11_3 < (l1.length : Int)) = true := decide_eq_true c9
                        clear c9
                        obtain ⟨ji10, hji10⟩ : ∃ j_ : Int, (IntKind.u64.wrap (x11_3)) = j_ := ⟨_, rfl⟩
                        replace H : (if 0 ≤ (ji10) then (if (Int.tmod (shr .i64 x9_2 (ji10)) 2) = 1 then (if 0 ≤ x11_3 then (if x11_3 < (l1.length : Int) then (if 0 ≤ (rd l1 x11_3) then (if (rd l1 x11_3) < (l0.length : Int) then (spec_l02Groups.l2 k3 l0 l1 (l1.length : Int) x6_1 x8_2 x9_2 (wrap64 (x10_3 + (rd l0 (rd l1 x11_3)))) (wrap64 (x11_3 + 1))) else (none)) else (none)) else (none)) else (none)) else (spec_l02Groups.l2 k3 l0 l1 (l1.length : Int) x6_1 x8_2 x9_2 x10_3 (wrap64 (x11_3 + 1)))) else (none)) = some r := by first | (rw [hji10] at H; exact H) | (simp only [hji10] at H ⊢; exact H)
                        by_cases c11 : 0 ≤ (ji10)
                        · rw [if_pos c11] at H
                          have c11b0 := eq_true c11
                          have c11b1 : decide (0 ≤ (ji10)) = true := decide_eq_true c11
                          clear c11
                          obtain ⟨ji12, hji12⟩ : ∃ j_ : Int, (shr .i64 x9_2 (ji10)) = j_ := ⟨_, rfl⟩
                          replace H : (if (Int.tmod (ji12) 2) = 1 then (if 0 ≤ x11_3 then (if x11_3 < (l1.length : Int) then (if 0 ≤ (rd l1 x11_3) then (if (rd l1 x11_3) < (l0.length : Int) then (spec_l02Groups.l2 k3 l0 l1 (l1.length : Int) x6_1 x8_2 x9_2 (wrap64 (x10_3 + (rd l0 (rd l1 x11_3)))) (wrap64 (x11_3 + 1))) else (none)) else (none)) else (none)) else (none)) else (spec_l02Groups.l2 k3 l0 l1 (l1.length : Int) x6_1 x8_2 x9_2 x10_3 (wrap64 (x11_3 + 1)))) = some r := by first | (rw [hji12] at H; exact H) | (simp only [hji12] at H ⊢; exact H)
                          have hji12_ : (x9_2 / 2 ^ min (ji10).toNat 64) = ji12 := hji12
                          have hji12z : (ji10) ≤ 64 → (x9_2 / 2 ^ (ji10).toNat) = ji12 := shr_small hji12
                          by_cases c13 : (Int.tmod (ji12) 2) = 1
                          · rw [if_pos c13] at H
                            have c13b0 : ((Int.tmod (ji12) 2) == 1) = true := beq_iff_eq.mpr c13
                            have c13b1 : ((Int.tmod (ji12) 2) != 1) = false := bne_eq_false_iff_eq.mpr c13
                            clear c13
                            by_cases c14 : 0 ≤ x11_3
                            · rw [if_pos c14] at H
                              have c14b0 : decide (0 ≤ x11_3) = true := decide_eq_true c14
                              clear c14
                              by_cases c15 : x11_3 < (l1.length : Int)
                              · rw [if_pos c15] at H
                                have c15b0 : decide (x11_3 < (l1.length : Int)) = true := decide_eq_true c15
                                clear c15
                                by_cases c16 : 0 ≤ (rd l1 x11_3)
                                · rw [if_pos c16] at H
                                  have c16b0 : decide (0 ≤ (rd l1 x11_3)) = true := decide_eq_true c16
                                  clear c16
                                  by_cases c17 : (rd l1 x11_3) < (l0.length : Int)
                                  · rw [if_pos c17] at H
                                    have c17b0 : decide ((rd l1 x11_3) < (l0.length : Int)) = true := decide_eq_true c17
                                    clear c17
                                    have H' := Aside0.mk H
                                    clear H
                                    have p122 : 0 ≤ (x11_3 : Int) := of_decide_eq_true (by first | (with_reducible assumption) | assumption)
                                    have q122 : x11_3 < (l1.length : Int) := of_decide_eq_true (by first | (with_reducible assumption) | assumption)
                                    obtain ⟨ad122, e122, hx122_0⟩ := Kd.at_int HR1.out x11_3 p122 q122
                                    cases e122
                                    try replace hx122_0 := (HB.out.cell (World.block_lt_of_cell? w _ hx122_0)).trans hx122_0
                                    replace p122 := eq_true p122
                                    replace q122 := eq_true q122
                                    have p123 : 0 ≤ ((rd l1 x11_3) : Int) := of_decide_eq_true (by first | (with_reducible assumption) | assumption)
                                    have q123 : (rd l1 x11_3) < (l0.length : Int) := of_decide_eq_true (by first | (with_reducible assumption) | assumption)
                                    obtain ⟨ad123, e123, hx123_0⟩ := Kd.at_int HR0.out (rd l1 x11_3) p123 q123
                                    cases e123
                                    try replace hx123_0 := (HB.out.cell (World.block_lt_of_cell? w _ hx123_0)).trans hx123_0
                                    replace p123 := eq_true p123
                                    replace q123 := eq_true q123
                                    go_wp2
                                    go_roundg k3
                                    case measure => have := HK1.out; have := HK2.out; have := HK3.out; omega
                                    case rel => exact ⟨(wrap64 (x10_3 + (rd l0 (rd l1 x11_3)))), (wrap64 (x11_3 + 1)), (by first | rfl | (simp; done) | (simp [*]; done)), (by first | rfl | (simp; done) | (simp [*]; done)), H', ⟨by have := HK1.out; have := HK2.out; have := HK3.out; omega⟩, ⟨by (with_reducible repeat (first | apply Kd.R_alloc | apply Kd.R_drewN | apply Kd.R_drew)); exact HO_8.out⟩, ⟨by repeat (first | (with_reducible first | exact HB.out | apply below_alloc | apply pw_below_drewN | apply below_drew1) | exact HB.out)⟩⟩
                                  · rw [if_neg c17] at H
                                    exact absurd H (by simp)
                                · rw [if_neg c16] at H
                                  exact absurd H (by simp)
                              · rw [if_neg c15] at H
                                exact absurd H (by simp)
                            · rw [if_neg c14] at H
                              exact absurd H (by simp)
                          · rw [if_neg c13] at H
                            have c13b0 : ((Int.tmod (ji12) 2) == 1) = false := beq_eq_false_iff_ne.mpr c13
                            have c13b1 : ((Int.tmod (ji12) 2) != 1) = true := bne_iff_ne.mpr c13
                            have H' := Aside0.mk H
                            clear H
                            go_wp2
                            go_roundg k3
                            case measure => have := HK1.out; have := HK2.out; have := HK3.out; omega
                            case rel => exact ⟨(x10_3), (wrap64 (x11_3 + 1)), (by first | rfl | (simp; done) | (simp [*]; done)), (by first | rfl | (simp; done) | (simp [*]; done)), H', ⟨by have := HK1.out; have := HK2.out; have := HK3.out; omega⟩, ⟨by (with_reducible repeat (first | apply Kd.R_alloc | apply Kd.R_drewN | apply Kd.R_drew)); exact HO_8.out⟩, ⟨by repeat (first | (with_reducible first | exact HB.out | apply below_alloc | apply pw_below_drewN | apply below_drew1) | exact HB.out)⟩⟩
                        · rw [if_neg c11] at H
                          exact absurd H (by simp)
                      · rw [if_neg c9] at H
                        have c9b0 : decide (x11_3 < (l1.length : Int)) = false := decide_eq_false c9
                        clear c9
                        by_cases c18 : 0 ≤ x9_2
                        · rw [if_pos c18] at H
                          have c18b0 : decide (0 ≤ x9_2) = true := decide_eq_true c18
                          clear c18
                          by_cases c19 : x9_2 < (x8_2.length : Int)
                          · rw [if_pos c19] at H
                            have c19b0 : decide (x9_2 < (x8_2.length : Int)) = true := decide_eq_true c19
                            clear c19
                            obtain ⟨y124, hy124⟩ : ∃ y_ : List Int, y_ = (x8_2.set (x9_2 : Int).toNat (-1)) := ⟨_, rfl⟩
                            replace H : (if x10_3 = 0 then (spec_l02Groups.l3 k3 l0 l1 (l1.length : Int) x6_1 (y124.set (x9_2 : Int).toNat 1) x9_2 (Go.bits .and .i64 (wrap64 (x9_2 - 1)) x9_2)) else (spec_l02Groups.l1 k3 l0 l1 (l1.length : Int) x6_1 y124 (wrap64 (x9_2 + 1)))) = some r := by first | (rw [hy124]; with_reducible exact H) | (have H2_ := (Option.bind_some _ _).symm.trans H; rw [hy124]; with_reducible exact H2_) | (have H2_ := (Option.bind_some _ _).symm.trans H; with_reducible exact H2_) | with_reducible exact H | (rw [hy124]; exact H) | exact H
                            have Ny124 := Aside0.mk hy124
                            clear hy124
                            by_cases c21 : x10_3 = 0
                            · rw [if_pos c21] at H
                              have c21b0 : (x10_3 == 0) = true := beq_iff_eq.mpr c21
                              have c21b1 : (x10_3 != 0) = false := bne_eq_false_iff_eq.mpr c21
                              clear c21
                              obtain ⟨y125, hy125⟩ : ∃ y_ : List Int, y_ = (y124.set (x9_2 : Int).toNat 1) := ⟨_, rfl⟩
                              replace H : (spec_l02Groups.l3 k3 l0 l1 (l1.length : Int) x6_1 y125 x9_2 (Go.bits .and .i64 (wrap64 (x9_2 - 1)) x9_2)) = some r := by first | (rw [hy125]; with_reducible exact H) | (have H2_ := (Option.bind_some _ _).symm.trans H; rw [hy125]; with_reducible exact H2_) | (have H2_ := (Option.bind_some _ _).symm.trans H; with_reducible exact H2_) | with_reducible exact H | (rw [hy125]; exact H) | exact H
                              have Ny125 := Aside0.mk hy125
                              clear hy125
                              have H' := Aside0.mk H
                              clear H
                              have p20 : 0 ≤ (x9_2 : Int) := of_decide_eq_true (by first | (with_reducible assumption) | assumption)
                              have q20 : (x9_2 : Int) < ((x8_2.length : Int) : Int) := of_decide_eq_true (by first | (with_reducible assumption) | assumption)
                              obtain ⟨go20, co20, eo20, gb20, gl20, cl20, HG20⟩ := Kd.R_form HO_8.out (by omega)
                              (first | cases eo20 | (injection eo20 with ea_ en_ ec_; (first | subst ea_ | (injection ea_ with ea_; subst ea_)); subst ec_; clear en_))
                              have GB20 := Aside0.mk gb20
                              have GG20 := Aside0.mk HG20
                              clear gb20 gl20 HG20
                              obtain ⟨hx20_0, hf20_0⟩ := Kd.R_celln 0 HO_8.out (x9_2 : Int) p20 q20
                              replace p20 := eq_true p20
                              replace q20 := eq_true q20
                              have HP23 := Kd.R_putg HO_8.out (x9_2 : Int) (-1)
                              go_wp2_with (first | ((with_reducible refine gate_store (t := 2) (p := 51) rfl ?_); refine store_event (t := 2) (p := 51) (v := ?vo_w24) (w1 := (wr.setCell ⟨go20, (x9_2 : Int).toNat, none⟩ (.int .i64 (-1)))) ?hg ?ho ?hn ?hr ?_; (case ho => rfl); (case hg => rfl); (case hn => rfl); (case hr => first | (go_simp; done) | (go_simp; rfl)); intro w24 hw; have hg : wr.grownBy w24 (some go20) := (by rw [hw]; exact HP23.2); have hp_ : Kd.R (Kd.int .i64) 2 w24 w.heap.size (fun _ => True) (.slice (some ⟨go20, 0, none⟩) x8_2.length co20) y124 := (by rw [hw, Ny124.out]; exact HP23.1); clear HP23; have n0_ := Aside0.mk (hp_); have n1_ := Aside0.mk ((by rw [hw]; exact below_set (HB.out) GB20.out : Below w.heap.size w w24)); clear HO_8; clear HB; have HO_8 := n0_; have HB := n1_; clear n0_ n1_; clear hg hw hp_; have p22 : 0 ≤ (x9_2 : Int) := of_decide_eq_true (by first | (with_reducible assumption) | assumption); have q22 : (x9_2 : Int) < ((x8_2.length : Int) : Int) := of_decide_eq_true (by first | (with_reducible assumption) | assumption); obtain ⟨hx22_0, hf22_0⟩ := Kd.R_celln 0 HO_8.out (x9_2 : Int) p22 q22; replace p22 := eq_true p22; replace q22 := eq_true q22; obtain ⟨hy25_, hz25_⟩ := Kd.R_celln 0 HO_8.out (x9_2 : Int) (of_decide_eq_true (by first | (with_reducible assumption) | assumption)) (of_decide_eq_true (by first | (with_reducible assumption) | assumption)); have HP25 := Kd.R_putg HO_8.out (x9_2 : Int) 1) | ((with_reducible refine gate_store (t := 2) (p := 56) rfl ?_); refine store_event (t := 2) (p := 56) (v := ?vo_w26) (w1 := (w24.setCell ⟨go20, (x9_2 : Int).toNat, none⟩ (.int .i64 1))) ?hg ?ho ?hn ?hr ?_; (case ho => rfl); (case hg => rfl); (case hn => rfl); (case hr => first | (go_simp; done) | (go_simp; rfl)); intro w26 hw; have hg : w24.grownBy w26 (some go20) := (by rw [hw]; exact HP25.2); have hp_ : Kd.R (Kd.int .i64) 2 w26 w.heap.size (fun _ => True) (.slice (some ⟨go20, 0, none⟩) x8_2.length co20) y125 := (by rw [hw, Ny125.out]; exact HP25.1); clear HP25; have n0_ := Aside0.mk (hp_); have n1_ := Aside0.mk ((by rw [hw]; exact below_set (HB.out) GB20.out : Below w.heap.size w w26)); clear HO_8; clear HB; have HO_8 := n0_; have HB := n1_; clear n0_ n1_; clear hg hw hp_))
                              go_loopg [12] k3 (fun kq v12 w' => ∃ (x8_4 : List Int) (x12_4 : Int), v12 = .int .i64 x12_4 ∧ Aside0 (spec_l02Groups.l3 kq l0 l1 (l1.length : Int) x6_1 x8_4 x9_2 x12_4 = some r) ∧ Aside0 (kq ≤ k3) ∧ Aside0 (Kd.R (Kd.int .i64) 2 w' w.heap.size (fun _ => True) (.slice (some ⟨go20, 0, none⟩) x8_2.length co20) x8_4) ∧ Aside0 (Below w.heap.size w w'))
                              case atStart => exact ⟨(y125), (Go.bits .and .i64 (wrap64 (x9_2 - 1)) x9_2), (by first | rfl | (simp; done) | (simp [*]; done)), H', ⟨Nat.le_refl _⟩, ⟨by (with_reducible repeat (first | apply Kd.R_alloc | apply Kd.R_drewN | apply Kd.R_drew)); exact HO_8.out⟩, ⟨by repeat (first | (with_reducible first | exact HB.out | apply below_alloc | apply pw_below_drewN | apply below_drew1) | exact HB.out)⟩⟩
                              case round =>
                                clear H'
                                try clear c1
                                try clear p1
                                try clear q1
                                try clear hx1
                                try clear c2
                                try clear p2
                                try clear q2
                                try clear hx2
                                try clear hf2
                                try clear c3
                                try clear c3b0
                                try clear c4
                                try clear c4b0
                                try clear c4b1
                                try clear c5
                                try clear c5b0
                                try clear c5b1
                                try clear p6
                                try clear c8
                                try clear c8b0
                                try clear c9
                                try clear c9b0
                                try clear c11
                                try clear c11b0
                                try clear c11b1
                                try clear p12
                                try clear q12
                                try clear hx12
                                try clear c13
                                try clear c13b0
                                try clear c13b1
                                try clear c14
                                try clear c14b0
                                try clear c15
                                try clear c15b0
                                try clear c16
                                try clear c16b0
                                try clear c17
                                try clear c17b0
                                try clear c18
                                try clear c18b0
                                try clear c19
                                try clear c19b0
                                try clear p20
                                try clear q20
                                try clear hx20
                                try clear hf20
                                try clear c21
                                try clear c21b0
                                try clear c21b1
                                try clear p22
                                try clear q22
                                try clear hx22
                                try clear hf22
                                try clear c24
                                try clear hx122_0
                                try clear hx123_0
                                try clear hx20_0
                                try clear hx22_0
                                try clear p122
                                try clear p123
                                try clear p2
                                try clear p20
                                try clear p22
                                try clear p6
                                try clear q122
                                try clear q123
                                try clear q20
                                try clear q22
                                obtain ⟨x8_4, x12_4, rfl, HA, HK4, HO_8, HB⟩ := hrel
                                have hl8_4 := (Kd.R_reads' HO_8.out).1
                                rw [hl8_4] at HO_8
                                (try simp only [hl8_4])
                                cases gk with
                                | zero => exact absurd HA.out (by simp [spec_l02Groups.l3])
                                | succ k4 =>
                                  have H := HA.out
                                  clear HA
                                  simp only [spec_l02Groups.l3] at H
                                  by_cases c27 : x12_4 > 0
                                  · rw [if_pos c27] at H
                                    have c27b0 : decide (0 < x12_4) = true := decide_eq_true c27
                                    clear c27
                                    by_cases c28 : 0 ≤ x12_4
                                    · rw [if_pos c28] at H
                                      have c28b0 : decide (0 ≤ x12_4) = true := decide_eq_true c28
                                      clear c28
                                      by_cases c29 : x12_4 < (x8_4.length : Int)
                                      · rw [if_pos c29] at H
                                        have c29b0 : decide (x12_4 < (x8_4.length : Int)) = true := decide_eq_true c29
                                        clear c29
                                        by_cases c30 : (rd x8_4 x12_4) > 0
                                        · rw [if_pos c30] at H
                                          have c30b0 : decide (0 < (rd x8_4 x12_4)) = true := decide_eq_true c30
                                          clear c30
                                          obtain ⟨ji31, hji31⟩ : ∃ j_ : Int, (wrap64 (x9_2 - x12_4)) = j_ := ⟨_, rfl⟩
                                          replace H : (if 0 ≤ (ji31) then (if (ji31) < (x8_4.length : Int) then (if (rd x8_4 (ji31)) > 0 then (if 0 ≤ x9_2 then (if x9_2 < (x8_4.length : Int) then ((spec_l00Max.f (rd x8_4 x9_2) (wrap64 ((rd x8_4 x12_4) + (rd x8_4 (ji31))))).bind fun t131 => (spec_l02Groups.l3 k4 l0 l1 (l1.length : Int) x6_1 (x8_4.set (x9_2 : Int).toNat t131) x9_2 (Go.bits .and .i64 (wrap64 (x12_4 - 1)) x9_2))) else (none)) else (none)) else (spec_l02Groups.l3 k4 l0 l1 (l1.length : Int) x6_1 x8_4 x9_2 (Go.bits .and .i64 (wrap64 (x12_4 - 1)) x9_2))) else (none)) else (none)) = some r := by first | (rw [hji31] at H; exact H) | (simp only [hji31] at H ⊢; exact H)
                                          have hji31w : (IntKind.i64.wrap (x9_2 - x12_4)) = ji31 := (i64_w _).trans hji31
                                          by_cases c32 : 0 ≤ (ji31)
                                          · rw [if_pos c32] at H
                                            have c32b0 : decide (0 ≤ (ji31)) = true := decide_eq_true c32
                                            clear c32
                                            by_cases c33 : (ji31) < (x8_4.length : Int)
                                            · rw [if_pos c33] at H
                                              have c33b0 : decide ((ji31) < (x8_4.length : Int)) = true := decide_eq_true c33
                                              clear c33
                                              by_cases c34 : (rd x8_4 (ji31)) > 0
                                              · rw [if_pos c34] at H
                                                have c34b0 : decide (0 < (rd x8_4 (ji31))) = true := decide_eq_true c34
                                                clear c34
                                                by_cases c35 : 0 ≤ x9_2
                                                · rw [if_pos c35] at H
                                                  have c35b0 : decide (0 ≤ x9_2) = true := decide_eq_true c35
                                                  clear c35
                                                  by_cases c36 : x9_2 < (x8_4.length : Int)
                                                  · rw [if_pos c36] at H
                                                    have c36b0 : decide (x9_2 < (x8_4.length : Int)) = true := decide_eq_true c36
                                                    clear c36
                                                    replace H := Option.bind_eq_some_iff.mp H
                                                    obtain ⟨t131, A370, H⟩ := H
                                                    replace H : (spec_l02Groups.l3 k4 l0 l1 (l1.length : Int) x6_1 (x8_4.set (x9_2 : Int).toNat t131) x9_2 (Go.bits .and .i64 (wrap64 (x12_4 - 1)) x9_2)) = some r := H
                                                    have A37 := Aside0.mk A370
                                                    clear A370
                                                    obtain ⟨y132, hy132⟩ : ∃ y_ : List Int, y_ = (x8_4.set (x9_2 : Int).toNat t131) := ⟨_, rfl⟩
                                                    replace H : (spec_l02Groups.l3 k4 l0 l1 (l1.length : Int) x6_1 y132 x9_2 (Go.bits .and .i64 (wrap64 (x12_4 - 1)) x9_2)) = some r := by first | (rw [hy132]; with_reducible exact H) | (have H2_ := (Option.bind_some _ _).symm.trans H; rw [hy132]; with_reducible exact H2_) | (have H2_ := (Option.bind_some _ _).symm.trans H; with_reducible exact H2_) | with_reducible exact H | (rw [hy132]; exact H) | exact H
                                                    have Ny132 := Aside0.mk hy132
                                                    clear hy132
                                                    have H' := Aside0.mk H
                                                    clear H
                                                    have p126 : 0 ≤ (x12_4 : Int) := of_decide_eq_true (by first | (with_reducible assumption) | assumption)
                                                    have q126 : x12_4 < (x8_4.length : Int) := of_decide_eq_true (by first | (with_reducible assumption) | assumption)
                                                    obtain ⟨ad126, e126, hx126_0⟩ := Kd.at_int (Kd.R_reads' HO_8.out).2.2 x12_4 p126 q126
                                                    obtain rfl : (⟨go20, 0, none⟩ : Addr) = ad126 := (by injection e126)
                                                    (first | simp only [add_plain] at hx126_0 | simp only [add_at] at hx126_0 | simp only [Addr.add, Nat.zero_add] at hx126_0 | skip)
                                                    replace p126 := eq_true p126
                                                    replace q126 := eq_true q126
                                                    have p127 : 0 ≤ ((ji31) : Int) := of_decide_eq_true (by first | (with_reducible assumption) | assumption)
                                                    have q127 : (ji31) < (x8_4.length : Int) := of_decide_eq_true (by first | (with_reducible assumption) | assumption)
                                                    obtain ⟨ad127, e127, hx127_0⟩ := Kd.at_int (Kd.R_reads' HO_8.out).2.2 (ji31) p127 q127
                                                    obtain rfl : (⟨go20, 0, none⟩ : Addr) = ad127 := (by injection e127)
                                                    (first | simp only [add_plain] at hx127_0 | simp only [add_at] at hx127_0 | simp only [Addr.add, Nat.zero_add] at hx127_0 | skip)
                                                    replace p127 := eq_true p127
                                                    replace q127 := eq_true q127
                                                    try go_wp2
                                                    have n0_ := Aside0.mk (Kd.R_drew HO_8.out)
                                                    have n1_ := Aside0.mk (below_drew1 HB.out)
                                                    clear HO_8
                                                    clear HB
                                                    have HO_8 := n0_
                                                    have HB := n1_
                                                    clear n0_ n1_
                                                    have p128 : 0 ≤ (x9_2 : Int) := of_decide_eq_true (by first | (with_reducible assumption) | assumption)
                                                    have q128 : x9_2 < (x8_4.length : Int) := of_decide_eq_true (by first | (with_reducible assumption) | assumption)
                                                    obtain ⟨ad128, e128, hx128_0⟩ := Kd.at_int (Kd.R_reads' HO_8.out).2.2 x9_2 p128 q128
                                                    obtain rfl : (⟨go20, 0, none⟩ : Addr) = ad128 := (by injection e128)
                                                    (first | simp only [add_plain] at hx128_0 | simp only [add_at] at hx128_0 | simp only [Addr.add, Nat.zero_add] at hx128_0 | skip)
                                                    replace p128 := eq_true p128
                                                    replace q128 := eq_true q128
                                                    have p129 : 0 ≤ (x12_4 : Int) := of_decide_eq_true (by first | (with_reducible assumption) | assumption)
                                                    have q129 : x12_4 < (x8_4.length : Int) := of_decide_eq_true (by first | (with_reducible assumption) | assumption)
                                                    obtain ⟨ad129, e129, hx129_0⟩ := Kd.at_int (Kd.R_reads' HO_8.out).2.2 x12_4 p129 q129
                                                    obtain rfl : (⟨go20, 0, none⟩ : Addr) = ad129 := (by injection e129)
                                                    (first | simp only [add_plain] at hx129_0 | simp only [add_at] at hx129_0 | simp only [Addr.add, Nat.zero_add] at hx129_0 | skip)
                                                    replace p129 := eq_true p129
                                                    replace q129 := eq_true q129
                                                    have p130 : 0 ≤ ((ji31) : Int) := of_decide_eq_true (by first | (with_reducible assumption) | assumption)
                                                    have q130 : (ji31) < (x8_4.length : Int) := of_decide_eq_true (by first | (with_reducible assumption) | assumption)
                                                    obtain ⟨ad130, e130, hx130_0⟩ := Kd.at_int (Kd.R_reads' HO_8.out).2.2 (ji31) p130 q130
                                                    obtain rfl : (⟨go20, 0, none⟩ : Addr) = ad130 := (by injection e130)
                                                    (first | simp only [add_plain] at hx130_0 | simp only [add_at] at hx130_0 | simp only [Addr.add, Nat.zero_add] at hx130_0 | skip)
                                                    replace p130 := eq_true p130
                                                    replace q130 := eq_true q130
                                                    refine start_ (n := 20) (S := fun w' => w'.cell? ⟨go20, (x9_2).toNat, none⟩ = some (.int .i64 (rd x8_4 x9_2)) ∧ w'.cell? ⟨go20, (x12_4).toNat, none⟩ = some (.int .i64 (rd x8_4 x12_4)) ∧ w'.cell? ⟨go20, ((ji31)).toNat, none⟩ = some (.int .i64 (rd x8_4 (ji31)))) (ds := [19]) #[false, false, false, false, false, false, false, false, false, false, false, false, false, false, false, false, false, false, false, false] (by kernel_rfl) rfl rfl ⟨hx128_0, hx129_0, hx130_0⟩ (fun hHeld => ?_); refine with_tabW spec_l02Groups.tab24 spec_l02Groups.bits24 (fun HT_ HW_ => ?_)
                                                    generalize wr.drew = w39 at HO_8 HB hx128_0 hx129_0 hx130_0 hHeld ⊢
                                                    refine pure_ (i := 0) (N := some 81) (v := ?_) (a' := ?_) #[true, false, false, false, false, false, false, false, false, false, false, false, false, false, false, false, false, false, false, false] rfl rfl (any_of HT_.out (by kernel_rfl)) (fun _ _ _ h => h) (Or.inl ⟨by rfl, ?_⟩) ?_ ?_
                                                    rotate_left
                                                    · intro w'
                                                      go_simp
                                                      with_reducible rfl
                                                    rotate_left
                                                    · simp only [Act.put, List.setIfInBounds_toArray, List.set_cons_zero, List.set_cons_succ, i64_w, i32_w]
                                                      rfl
                                                    refine pure_ (i := 1) (N := some 82) (v := ?_) (a' := ?_) #[true, true, false, false, false, false, false, false, false, false, false, false, false, false, false, false, false, false, false, false] rfl rfl (any_of HT_.out (by kernel_rfl)) (fun _ _ _ h => h) (Or.inl ⟨by rfl, ?_⟩) ?_ ?_
                                                    rotate_left
                                                    · intro w'
                                                      go_simp
                                                      with_reducible rfl
                                                    rotate_left
                                                    · simp only [Act.put, List.setIfInBounds_toArray, List.set_cons_zero, List.set_cons_succ, i64_w, i32_w]
                                                      rfl
                                                    refine pure_ (i := 2) (N := some 83) (v := ?_) (a' := ?_) #[true, true, true, false, false, false, false, false, false, false, false, false, false, false, false, false, false, false, false, false] rfl rfl (any_of HT_.out (by kernel_rfl)) (fun _ _ _ h => h) (Or.inl ⟨by rfl, ?_⟩) ?_ ?_
                                                    rotate_left
                                                    · intro w'
                                                      go_simp
                                                      with_reducible rfl
                                                    rotate_left
                                                    · simp only [Act.put, List.setIfInBounds_toArray, List.set_cons_zero, List.set_cons_succ, i64_w, i32_w]
                                                      rfl
                                                    refine pure_ (i := 3) (N := some 84) (v := ?_) (a' := ?_) #[true, true, true, true, false, false, false, false, false, false, false, false, false, false, false, false, false, false, false, false] rfl rfl (any_of HT_.out (by kernel_rfl)) (fun _ _ _ h => h) (Or.inl ⟨by rfl, ?_⟩) ?_ ?_
                                                    rotate_left
                                                    · intro w'
                                                      go_simp
                                                      with_reducible rfl
                                                    rotate_left
                                                    · simp only [Act.put, List.setIfInBounds_toArray, List.set_cons_zero, List.set_cons_succ, i64_w, i32_w]
                                                      rfl
                                                    refine pure_ (i := 4) (N := some 85) (v := ?_) (a' := ?_) #[true, true, true, true, true, false, false, false, false, false, false, false, false, false, false, false, false, false, false, false] rfl rfl (any_of HT_.out (by kernel_rfl)) (fun _ _ _ h => h) (Or.inl ⟨by rfl, ?_⟩) ?_ ?_
                                                    rotate_left
                                                    · intro w'
                                                      go_simp
                                                      with_reducible rfl
                                                    rotate_left
                                                    · simp only [Act.put, List.setIfInBounds_toArray, List.set_cons_zero, List.set_cons_succ, i64_w, i32_w]
                                                      rfl
                                                    refine pure_ (i := 6) (N := some 87) (v := ?_) (a' := ?_) #[true, true, true, true, true, false, true, false, false, false, false, false, false, false, false, false, false, false, false, false] rfl rfl (any_of HT_.out (by kernel_rfl)) (fun _ _ _ h => h) (Or.inl ⟨by rfl, ?_⟩) ?_ ?_
                                                    rotate_left
                                                    · intro w'
                                                      go_simp
                                                      with_reducible rfl
                                                    rotate_left
                                                    · simp only [Act.put, List.setIfInBounds_toArray, List.set_cons_zero, List.set_cons_succ, i64_w, i32_w]
                                                      rfl
                                                    refine pure_ (i := 7) (N := some 88) (v := ?_) (a' := ?_) #[true, true, true, true, true, false, true, true, false, false, false, false, false, false, false, false, false, false, false, false] rfl rfl (any_of HT_.out (by kernel_rfl)) (fun _ _ _ h => h) (Or.inl ⟨by rfl, ?_⟩) ?_ ?_
                                                    rotate_left
                                                    · intro w'
                                                      go_simp
                                                      with_reducible rfl
                                                    rotate_left
                                                    · simp only [Act.put, List.setIfInBounds_toArray, List.set_cons_zero, List.set_cons_succ, i64_w, i32_w]
                                                      rfl
                                                    refine pure_ (i := 8) (N := some 89) (v := ?_) (a' := ?_) #[true, true, true, true, true, false, true, true, true, false, false, false, false, false, false, false, false, false, false, false] rfl rfl (any_of HT_.out (by kernel_rfl)) (fun _ _ _ h => h) (Or.inl ⟨by rfl, ?_⟩) ?_ ?_
                                                    rotate_left
                                                    · intro w'
                                                      go_simp
                                                      with_reducible rfl
                                                    rotate_left
                                                    · simp only [Act.put, List.setIfInBounds_toArray, List.set_cons_zero, List.set_cons_succ, i64_w, i32_w]
                                                      rfl
                                                    refine pure_ (i := 10) (N := some 91) (v := ?_) (a' := ?_) #[true, true, true, true, true, false, true, true, true, false, true, false, false, false, false, false, false, false, false, false] rfl rfl (any_of HT_.out (by kernel_rfl)) (fun _ _ _ h => h) (Or.inl ⟨by rfl, ?_⟩) ?_ ?_
                                                    rotate_left
                                                    · intro w'
                                                      go_simp
                                                      with_reducible rfl
                                                    rotate_left
                                                    · simp only [Act.put, List.setIfInBounds_toArray, List.set_cons_zero, List.set_cons_succ, i64_w, i32_w]
                                                      rfl
                                                    refine pure_ (i := 11) (N := some 92) (v := ?_) (a' := ?_) #[true, true, true, true, true, false, true, true, true, false, true, true, false, false, false, false, false, false, false, false] rfl rfl (any_of HT_.out (by kernel_rfl)) (fun _ _ _ h => h) (Or.inl ⟨by rfl, ?_⟩) ?_ ?_
                                                    rotate_left
                                                    · intro w'
                                                      go_simp
                                                      with_reducible rfl
                                                    rotate_left
                                                    · simp only [Act.put, List.setIfInBounds_toArray, List.set_cons_zero, List.set_cons_succ, i64_w, i32_w]
                                                      rfl
                                                    refine pure_ (i := 12) (N := some 93) (v := ?_) (a' := ?_) #[true, true, true, true, true, false, true, true, true, false, true, true, true, false, false, false, false, false, false, false] rfl rfl (any_of HT_.out (by kernel_rfl)) (fun _ _ _ h => h) (Or.inl ⟨by rfl, ?_⟩) ?_ ?_
                                                    rotate_left
                                                    · intro w'
                                                      go_simp
                                                      with_reducible rfl
                                                    rotate_left
                                                    · simp only [Act.put, List.setIfInBounds_toArray, List.set_cons_zero, List.set_cons_succ, i64_w, i32_w]
                                                      rfl
                                                    refine pure_ (i := 13) (N := some 94) (v := ?_) (a' := ?_) #[true, true, true, true, true, false, true, true, true, false, true, true, true, true, false, false, false, false, false, false] rfl rfl (any_of HT_.out (by kernel_rfl)) (fun _ _ _ h => h) (Or.inl ⟨by rfl, ?_⟩) ?_ ?_
                                                    rotate_left
                                                    · intro w'
                                                      go_simp
                                                      with_reducible rfl
                                                    rotate_left
                                                    · simp only [Act.put, List.setIfInBounds_toArray, List.set_cons_zero, List.set_cons_succ, i64_w, i32_w]
                                                      rfl
                                                    refine pure_ (i := 14) (N := some 95) (v := ?_) (a' := ?_) #[true, true, true, true, true, false, true, true, true, false, true, true, true, true, true, false, false, false, false, false] rfl rfl (any_of HT_.out (by kernel_rfl)) (fun _ _ _ h => h) (Or.inl ⟨by rfl, ?_⟩) ?_ ?_
                                                    rotate_left
                                                    · intro w'
                                                      go_simp
                                                      with_reducible rfl
                                                    rotate_left
                                                    · simp only [Act.put, List.setIfInBounds_toArray, List.set_cons_zero, List.set_cons_succ, i64_w, i32_w]
                                                      rfl
                                                    refine take_ (i := 5) (N := some 86) (v := ?_) (a' := ?_) #[true, true, true, true, true, true, true, true, true, false, true, true, true, true, true, false, false, false, false, false] rfl rfl (take_ofW HT_.out HW_.out (by kernel_rfl)) (fun _ _ _ h => h) (Or.inl ⟨by rfl, ?_⟩) hHeld ?_ ?_
                                                    rotate_left
                                                    · rintro w' ⟨s0, s1, s2⟩
                                                      go_simp
                                                      with_reducible rfl
                                                    rotate_left
                                                    · simp only [Act.put, List.setIfInBounds_toArray, List.set_cons_zero, List.set_cons_succ, i64_w, i32_w]
                                                      rfl
                                                    refine take_ (i := 9) (N := some 90) (v := ?_) (a' := ?_) #[true, true, true, true, true, true, true, true, true, true, true, true, true, true, true, false, false, false, false, false] rfl rfl (take_ofW HT_.out HW_.out (by kernel_rfl)) (fun _ _ _ h => h) (Or.inl ⟨by rfl, ?_⟩) hHeld ?_ ?_
                                                    rotate_left
                                                    · rintro w' ⟨s0, s1, s2⟩
                                                      go_simp
                                                      with_reducible rfl
                                                    rotate_left
                                                    · simp only [Act.put, List.setIfInBounds_toArray, List.set_cons_zero, List.set_cons_succ, i64_w, i32_w]
                                                      rfl
                                                    refine take_ (i := 15) (N := some 96) (v := ?_) (a' := ?_) #[true, true, true, true, true, true, true, true, true, true, true, true, true, true, true, true, false, false, false, false] rfl rfl (take_ofW HT_.out HW_.out (by kernel_rfl)) (fun _ _ _ h => h) (Or.inl ⟨by rfl, ?_⟩) hHeld ?_ ?_
                                                    rotate_left
                                                    · rintro w' ⟨s0, s1, s2⟩
                                                      go_simp
                                                      with_reducible rfl
                                                    rotate_left
                                                    · simp only [Act.put, List.setIfInBounds_toArray, List.set_cons_zero, List.set_cons_succ, i64_w, i32_w]
                                                      rfl
                                                    refine pure_ (i := 16) (N := some 97) (v := ?_) (a' := ?_) #[true, true, true, true, true, true, true, true, true, true, true, true, true, true, true, true, true, false, false, false] rfl rfl (any_of HT_.out (by kernel_rfl)) (fun _ _ _ h => h) (Or.inl ⟨by rfl, ?_⟩) ?_ ?_
                                                    rotate_left
                                                    · intro w'
                                                      go_simp
                                                      with_reducible rfl
                                                    rotate_left
                                                    · simp only [Act.put, List.setIfInBounds_toArray, List.set_cons_zero, List.set_cons_succ, i64_w, i32_w]
                                                      rfl
                                                    refine one_ (i := 17) (N := some 98) #[true, true, true, true, true, true, true, true, true, true, true, true, true, true, true, true, true, true, false, false] rfl rfl (one_of HT_.out (by kernel_rfl)) (by decide) (fun K hK => ?_)
                                                    refine goes_ Tryd.func42 (by kernel_rfl) rfl #[.int .i64 (rd x8_4 x9_2), .int .i64 (wrap64 ((rd x8_4 x12_4) + (rd x8_4 (ji31))))] (by rfl) rfl rfl (by (try simp only [List.map_toArray, List.map_cons, List.map_nil]); first | done | (simp only [hji31]; rfl) | (go_simp; done) | rfl | (simp only [List.length_drop, List.length_take]; rfl)) ?_
                                                    with_reducible refine (spec_l00Max.calls (rd x8_4 x9_2) (wrap64 ((rd x8_4 x12_4) + (rd x8_4 (ji31)))) t131 _ A37.out).mono ?_
                                                    rintro e w' ⟨rfl, ⟨nd, rfl⟩⟩
                                                    refine ⟨_, rfl, ?_⟩
                                                    have p38 : 0 ≤ (x9_2 : Int) := of_decide_eq_true (by first | (with_reducible assumption) | assumption)
                                                    have q38 : (x9_2 : Int) < ((x8_4.length : Int) : Int) := of_decide_eq_true (by first | (with_reducible assumption) | assumption)
                                                    obtain ⟨hx38_0, hf38_0⟩ := Kd.R_celln 0 HO_8.out (x9_2 : Int) p38 q38
                                                    replace p38 := eq_true p38
                                                    replace q38 := eq_true q38
                                                    have HP40 := Kd.R_putn HO_8.out (x9_2 : Int) t131
                                                    rw [← Ny132.out] at HP40
                                                    have HQ40 := Aside0.mk HP40
                                                    clear HP40
                                                    refine hK.out _ _ ⟨hHeld.1, hHeld.2.1, hHeld.2.2⟩ (fun hHeld => ?_)
                                                    clear hK K
                                                    refine norm_ (a' := ?_) ?_ ?_
                                                    rotate_left
                                                    · show Act.put _ (some 98) _ = _
                                                      simp only [Act.put, List.setIfInBounds_toArray, List.set_cons_zero, List.set_cons_succ, i64_w, i32_w]
                                                      rfl
                                                    refine pure_ (i := 18) (N := some 99) (v := ?_) (a' := ?_) #[true, true, true, true, true, true, true, true, true, true, true, true, true, true, true, true, true, true, true, false] rfl rfl (any_of HT_.out (by kernel_rfl)) (fun _ _ _ h => h) (Or.inl ⟨by rfl, ?_⟩) ?_ ?_
                                                    rotate_left
                                                    · intro w'
                                                      go_simp
                                                      with_reducible rfl
                                                    rotate_left
                                                    · simp only [Act.put, List.setIfInBounds_toArray, List.set_cons_zero, List.set_cons_succ, i64_w, i32_w]
                                                      rfl
                                                    refine last_ (i := 19) (N := none) #[true, true, true, true, true, true, true, true, true, true, true, true, true, true, true, true, true, true, true, true] rfl rfl (one_of HT_.out (by kernel_rfl)) (by decide) (fun K hK => ?_)
                                                    refine skip_ (w1 := ?_) (by rfl) rfl ?_ ?_
                                                    rotate_left
                                                    · go_simp
                                                      rfl
                                                    refine hK.out _ _ ?_
                                                    clear hK K
                                                    refine done_ (done_of HT_.out (by kernel_rfl)) ?_
                                                    try go_wp2
                                                    (try simp only [← hl8_4])
                                                    go_roundg k4
                                                    case measure => have := HK1.out; have := HK2.out; have := HK3.out; have := HK4.out; omega
                                                    case rel => exact ⟨(y132), (Go.bits .and .i64 (wrap64 (x12_4 - 1)) x9_2), (by first | rfl | (simp; done) | (simp [*]; done)), H', ⟨by have := HK1.out; have := HK2.out; have := HK3.out; have := HK4.out; omega⟩, ⟨by (try simp only [hl8_4]); (with_reducible repeat (first | apply Kd.R_alloc | apply Kd.R_drewN | apply Kd.R_drew)); exact HQ40.out⟩, ⟨by repeat (first | (with_reducible first | exact HB.out | apply below_alloc | apply pw_below_drewN | apply below_drew1 | refine below_set ?_ GB20.out) | exact HB.out)⟩⟩
                                                  · rw [if_neg c36] at H
                                                    exact absurd H (by simp)
                                                · rw [if_neg c35] at H
                                                  exact absurd H (by simp)
                                              · rw [if_neg c34] at H
                                                have c34b0 : decide (0 < (rd x8_4 (ji31))) = false := decide_eq_false c34
                                                clear c34
                                                have H' := Aside0.mk H
                                                clear H
                                                have p126 : 0 ≤ (x12_4 : Int) := of_decide_eq_true (by first | (with_reducible assumption) | assumption)
                                                have q126 : x12_4 < (x8_4.length : Int) := of_decide_eq_true (by first | (with_reducible assumption) | assumption)
                                                obtain ⟨ad126, e126, hx126_0⟩ := Kd.at_int (Kd.R_reads' HO_8.out).2.2 x12_4 p126 q126
                                                obtain rfl : (⟨go20, 0, none⟩ : Addr) = ad126 := (by injection e126)
                                                (first | simp only [add_plain] at hx126_0 | simp only [add_at] at hx126_0 | simp only [Addr.add, Nat.zero_add] at hx126_0 | skip)
                                                replace p126 := eq_true p126
                                                replace q126 := eq_true q126
                                                have p127 : 0 ≤ ((ji31) : Int) := of_decide_eq_true (by first | (with_reducible assumption) | assumption)
                                                have q127 : (ji31) < (x8_4.length : Int) := of_decide_eq_true (by first | (with_reducible assumption) | assumption)
                                                obtain ⟨ad127, e127, hx127_0⟩ := Kd.at_int (Kd.R_reads' HO_8.out).2.2 (ji31) p127 q127
                                                obtain rfl : (⟨go20, 0, none⟩ : Addr) = ad127 := (by injection e127)
                                                (first | simp only [add_plain] at hx127_0 | simp only [add_at] at hx127_0 | simp only [Addr.add, Nat.zero_add] at hx127_0 | skip)
                                                replace p127 := eq_true p127
                                                replace q127 := eq_true q127
                                                go_wp2
                                                (try simp only [← hl8_4])
                                                go_roundg k4
                                                case measure => have := HK1.out; have := HK2.out; have := HK3.out; have := HK4.out; omega
                                                case rel => exact ⟨(x8_4), (Go.bits .and .i64 (wrap64 (x12_4 - 1)) x9_2), (by first | rfl | (simp; done) | (simp [*]; done)), H', ⟨by have := HK1.out; have := HK2.out; have := HK3.out; have := HK4.out; omega⟩, ⟨by (try simp only [hl8_4]); (with_reducible repeat (first | apply Kd.R_alloc | apply Kd.R_drewN | apply Kd.R_drew)); exact HO_8.out⟩, ⟨by repeat (first | (with_reducible first | exact HB.out | apply below_alloc | apply pw_below_drewN | apply below_drew1) | exact HB.out)⟩⟩
                                            · rw [if_neg c33] at H
                                              exact absurd H (by simp)
                                          · rw [if_neg c32] at H
                                            exact absurd H (by simp)
                                        · rw [if_neg c30] at H
                                          have c30b0 : decide (0 < (rd x8_4 x12_4)) = false := decide_eq_false c30
                                          clear c30
                                          have H' := Aside0.mk H
                                          clear H
                                          have p126 : 0 ≤ (x12_4 : Int) := of_decide_eq_true (by first | (with_reducible assumption) | assumption)
                                          have q126 : x12_4 < (x8_4.length : Int) := of_decide_eq_true (by first | (with_reducible assumption) | assumption)
                                          obtain ⟨ad126, e126, hx126_0⟩ := Kd.at_int (Kd.R_reads' HO_8.out).2.2 x12_4 p126 q126
                                          obtain rfl : (⟨go20, 0, none⟩ : Addr) = ad126 := (by injection e126)
                                          (first | simp only [add_plain] at hx126_0 | simp only [add_at] at hx126_0 | simp only [Addr.add, Nat.zero_add] at hx126_0 | skip)
                                          replace p126 := eq_true p126
                                          replace q126 := eq_true q126
                                          go_wp2
                                          (try simp only [← hl8_4])
                                          go_roundg k4
                                          case measure => have := HK1.out; have := HK2.out; have := HK3.out; have := HK4.out; omega
                                          case rel => exact ⟨(x8_4), (Go.bits .and .i64 (wrap64 (x12_4 - 1)) x9_2), (by first | rfl | (simp; done) | (simp [*]; done)), H', ⟨by have := HK1.out; have := HK2.out; have := HK3.out; have := HK4.out; omega⟩, ⟨by (try simp only [hl8_4]); (with_reducible repeat (first | apply Kd.R_alloc | apply Kd.R_drewN | apply Kd.R_drew)); exact HO_8.out⟩, ⟨by repeat (first | (with_reducible first | exact HB.out | apply below_alloc | apply pw_below_drewN | apply below_drew1) | exact HB.out)⟩⟩
                                      · rw [if_neg c29] at H
                                        exact absurd H (by simp)
                                    · rw [if_neg c28] at H
                                      exact absurd H (by simp)
                                  · rw [if_neg c27] at H
                                    have c27b0 : decide (0 < x12_4) = false := decide_eq_false c27
                                    clear c27
                                    have H' := Aside0.mk H
                                    clear H
                                    go_wp2
                                    (try simp only [← hl8_4])
                                    go_roundg k4
                                    case measure => have := HK1.out; have := HK2.out; have := HK3.out; have := HK4.out; omega
                                    case rel => exact ⟨(x8_4), (wrap64 (x9_2 + 1)), (by first | rfl | (simp; done) | (simp [*]; done)), H', ⟨by have := HK1.out; have := HK2.out; have := HK3.out; have := HK4.out; omega⟩, ⟨by (try simp only [hl8_4]); (with_reducible repeat (first | apply Kd.R_alloc | apply Kd.R_drewN | apply Kd.R_drew)); exact HO_8.out⟩, ⟨by repeat (first | (with_reducible first | exact HB.out | apply below_alloc | apply pw_below_drewN | apply below_drew1) | exact HB.out)⟩⟩
                            · rw [if_neg c21] at H
                              have c21b0 : (x10_3 == 0) = false := beq_eq_false_iff_ne.mpr c21
                              have c21b1 : (x10_3 != 0) = true := bne_iff_ne.mpr c21
                              have H' := Aside0.mk H
                              clear H
                              have p20 : 0 ≤ (x9_2 : Int) := of_decide_eq_true (by first | (with_reducible assumption) | assumption)
                              have q20 : (x9_2 : Int) < ((x8_2.length : Int) : Int) := of_decide_eq_true (by first | (with_reducible assumption) | assumption)
                              obtain ⟨go20, co20, eo20, gb20, gl20, cl20, HG20⟩ := Kd.R_form HO_8.out (by omega)
                              (first | cases eo20 | (injection eo20 with ea_ en_ ec_; (first | subst ea_ | (injection ea_ with ea_; subst ea_)); subst ec_; clear en_))
                              have GB20 := Aside0.mk gb20
                              have GG20 := Aside0.mk HG20
                              clear gb20 gl20 HG20
                              obtain ⟨hx20_0, hf20_0⟩ := Kd.R_celln 0 HO_8.out (x9_2 : Int) p20 q20
                              replace p20 := eq_true p20
                              replace q20 := eq_true q20
                              have HP41 := Kd.R_putg HO_8.out (x9_2 : Int) (-1)
                              go_wp2_with (first | ((with_reducible refine gate_store (t := 2) (p := 51) rfl ?_); refine store_event (t := 2) (p := 51) (v := ?vo_w42) (w1 := (wr.setCell ⟨go20, (x9_2 : Int).toNat, none⟩ (.int .i64 (-1)))) ?hg ?ho ?hn ?hr ?_; (case ho => rfl); (case hg => rfl); (case hn => rfl); (case hr => first | (go_simp; done) | (go_simp; rfl)); intro w42 hw; have hg : wr.grownBy w42 (some go20) := (by rw [hw]; exact HP41.2); have hp_ : Kd.R (Kd.int .i64) 2 w42 w.heap.size (fun _ => True) (.slice (some ⟨go20, 0, none⟩) x8_2.length co20) y124 := (by rw [hw, Ny124.out]; exact HP41.1); clear HP41; have n0_ := Aside0.mk (hp_); have n1_ := Aside0.mk ((by rw [hw]; exact below_set (HB.out) GB20.out : Below w.heap.size w w42)); clear HO_8; clear HB; have HO_8 := n0_; have HB := n1_; clear n0_ n1_; clear hg hw hp_))
                              go_roundg k3
                              case measure => have := HK1.out; have := HK2.out; have := HK3.out; omega
                              case rel => exact ⟨(y124), (wrap64 (x9_2 + 1)), (by first | rfl | (simp; done) | (simp [*]; done)), H', ⟨by have := HK1.out; have := HK2.out; have := HK3.out; omega⟩, ⟨by (with_reducible repeat (first | apply Kd.R_alloc | apply Kd.R_drewN | apply Kd.R_drew)); exact HO_8.out⟩, ⟨by repeat (first | (with_reducible first | exact HB.out | apply below_alloc | apply pw_below_drewN | apply below_drew1) | exact HB.out)⟩⟩
                          · rw [if_neg c19] at H
                            exact absurd H (by simp)
                        · rw [if_neg c18] at H
                          exact absurd H (by simp)
                · rw [if_neg c8] at H
                  have c8b0 : decide (x9_2 < x6_1) = false := decide_eq_false c8
                  clear c8
                  obtain rfl := Option.some.inj H
                  go_wp2
                  go_ret
                  exact ⟨_, by first | rfl | (simp [errW_none, errW_some] <;> rfl) | (simp [*, errW_none, errW_some] <;> rfl), by (with_reducible repeat (first | apply Kd.R_alloc | apply Kd.R_drewN | apply Kd.R_drew)); exact HO_8.out, by repeat (first | (with_reducible first | exact HB.out | apply below_alloc | apply pw_below_drewN | apply below_drew1) | exact HB.out)⟩
          · rw [if_neg c5] at H
            exact absurd H (by simp)
        · rw [if_neg c4] at H
          exact absurd H (by simp)

end Go.Proofs.YtcghnnhhgngddaaDoor.MFewestPayments
