-- by a program of this session, for this claim
import Derived.Test.YtcblnnfodpglaaaMCutStickx0
import Derived.Test.YtcblnnfodpglaaaMCutStickx4
import Derived.Test.YtcblnnfodpglaaaMCutStickx5
namespace Go.Proofs.Ytcblnnfodpglaaa.MCutStick
open Go.RowKit Go.Proofs.YtcblnnfodpglaaaW.PrintWords Go.Proofs.YtcblnnfodpglaaaW.PrintLast Go.Proofs.YtcblnnfodpglaaaW.PrintMore
attribute [local go_sem] max2_int min2_int max_two min_two max_three min_three max_four min_four   -- for this text's walks alone
set_option linter.unusedVariables false
set_option linter.unusedSimpArgs false

/-! ### impl_isAmount: function 72 -/
def impl_isAmount.f (a0 : Int) : Option (Bool) := if a0 ≥ 0 then (some (decide (a0 ≤ 100000000))) else (some false)
set_option maxHeartbeats 8000000 in
set_option maxRecDepth 100000 in
theorem impl_isAmount.calls (a0 : Int) (r : Bool) (w : World) (h : impl_isAmount.f a0 = some r) :
    Calls Try.prog 72 #[.int .i64 a0] w fun e w' => e = .returned (.bool r) ∧ Drawn0 w w' := by
  have H : (if a0 ≥ 0 then (some (decide (a0 ≤ 100000000))) else (some false)) = some r := h
  clear h
  by_cases c2 : a0 ≥ 0
  · rw [if_pos c2] at H
    have c2b0 : decide (0 ≤ a0) = true := decide_eq_true c2
    clear c2
    obtain rfl := Option.some.inj H
    go_enter Try.func72, Try.ntmps72
    go_wp2
    go_ret
    exact ⟨by first | rfl | (simp; done) | (simp [*]; done), by repeat (first | exact Drawn0.refl _ | apply Drawn0.step)⟩
  · rw [if_neg c2] at H
    have c2b0 : decide (0 ≤ a0) = false := decide_eq_false c2
    clear c2
    obtain rfl := Option.some.inj H
    go_enter Try.func72, Try.ntmps72
    go_wp2
    go_ret
    exact ⟨by first | rfl | (simp; done) | (simp [*]; done), by repeat (first | exact Drawn0.refl _ | apply Drawn0.step)⟩

/-! ### impl_worth: function 73 -/
def impl_worth.f (a0 : Int) : Option (Int) := (some (([1, 12, 240, 4800, 24000, 240000] : List Int) : List Int)).bind fun y189 => (if 0 ≤ a0 then (if a0 < (y189.length : Int) then (some (rd y189 a0)) else (none)) else (none))
set_option maxHeartbeats 8000000 in
set_option maxRecDepth 100000 in
theorem impl_worth.calls (a0 : Int) (r : Int) (w : World) (h : impl_worth.f a0 = some r) :
    Calls Try.prog 73 #[.int .i64 a0] w fun e w' => e = .returned (.int .i64 r) ∧ Below w.heap.size w w' := by
  have HB := Aside0.mk (Below.refl w.heap.size w)
  have H : ((some (([1, 12, 240, 4800, 24000, 240000] : List Int) : List Int)).bind fun y189 => (if 0 ≤ a0 then (if a0 < (y189.length : Int) then (some (rd y189 a0)) else (none)) else (none))) = some r := h
  clear h
  obtain ⟨y189, hy189⟩ : ∃ y_ : List Int, y_ = (([1, 12, 240, 4800, 24000, 240000] : List Int)) := ⟨_, rfl⟩
  replace H : (if 0 ≤ a0 then (if a0 < (y189.length : Int) then (some (rd y189 a0)) else (none)) else (none)) = some r := by first | (rw [hy189]; with_reducible exact H) | (have H2_ := (Option.bind_some _ _).symm.trans H; rw [hy189]; with_reducible exact H2_) | (have H2_ := (Option.bind_some _ _).symm.trans H; with_reducible exact H2_) | with_reducible exact H | (rw [hy189]; exact H) | exact H
  have Ny189 := Aside0.mk hy189
  clear hy189
  by_cases c2 : 0 ≤ a0
  · rw [if_pos c2] at H
    have c2b0 : decide (0 ≤ a0) = true := decide_eq_true c2
    clear c2
    by_cases c3 : a0 < (y189.length : Int)
    · rw [if_pos c3] at H
      have c3b0 : decide (a0 < (y189.length : Int)) = true := decide_eq_true c3
      clear c3
      obtain rfl := Option.some.inj H
      go_enter Try.func73, Try.ntmps73
      go_wp2_with (first | ((with_reducible refine gate_dst (N := 3) rfl ?_); refine Kd.R_lit (Kd.int .i64) _ 2 ?hg (N := 3) ?hd (xs := ([1, 12, 240, 4800, 24000, 240000] : List Int)) (inner := [.int .i64 1, .int .i64 12, .int .i64 240, .int .i64 4800, .int .i64 24000, .int .i64 240000]) (ok := fun _ => True) (okp := fun _ => True) ?hr ?hp (fun _ hk => hk) trivial (Below.refl _ _) (Nat.le_refl _) (by simp) ?_; (case hd => rfl); (case hg => rfl); (case hr => first | (go_simp; done) | (go_simp; rfl)); (case hp => exact (Reps.one (show Kd.M (Kd.int .i64) _ _ _ 1 [.int .i64 1] from rfl) (Reps.one (show Kd.M (Kd.int .i64) _ _ _ 12 [.int .i64 12] from rfl) (Reps.one (show Kd.M (Kd.int .i64) _ _ _ 240 [.int .i64 240] from rfl) (Reps.one (show Kd.M (Kd.int .i64) _ _ _ 4800 [.int .i64 4800] from rfl) (Reps.one (show Kd.M (Kd.int .i64) _ _ _ 24000 [.int .i64 24000] from rfl) (Reps.one (show Kd.M (Kd.int .i64) _ _ _ 240000 [.int .i64 240000] from rfl) (Reps.none _ _)))))))); intro v190 w4 ho5 hb hg_ hnew_; clear hg_ hnew_; (first | rw [← Ny189.out] at ho5 | (simp only [Int.reduceToNat] at ho5; rw [← Ny189.out] at ho5)); have n0_ := Aside0.mk (Kd.R_lower ho5 (below_size (by repeat (first | (with_reducible first | exact HB.out | apply below_alloc | apply pw_below_drewN | apply below_drew1) | exact HB.out)))); have n1_ := Aside0.mk (below_step (by repeat (first | (with_reducible first | exact HB.out | apply below_alloc | apply pw_below_drewN | apply below_drew1) | exact HB.out)) hb); clear HB; have HO191 := n0_; have HB := n1_; clear n0_ n1_; clear hb ho5; obtain ⟨Ao6, co6, eo6⟩ := Kd.R_slice HO191.out; subst eo6; have p192 : 0 ≤ (a0 : Int) := of_decide_eq_true (by first | (with_reducible assumption) | assumption); have q192 : a0 < (y189.length : Int) := of_decide_eq_true (by first | (with_reducible assumption) | assumption); obtain ⟨ad192, e192, hx192_0⟩ := Kd.at_int (Kd.R_reads' HO191.out).2.2 a0 p192 q192; cases e192; replace p192 := eq_true p192; replace q192 := eq_true q192))
      go_ret
      exact ⟨by first | rfl | (simp [errW_none, errW_some] <;> rfl) | (simp [*, errW_none, errW_some] <;> rfl), by repeat (first | (with_reducible first | exact HB.out | apply below_alloc | apply pw_below_drewN | apply below_drew1) | exact HB.out)⟩
    · rw [if_neg c3] at H
      exact absurd H (by simp)
  · rw [if_neg c2] at H
    exact absurd H (by simp)

/-! ### impl_NotchesFor: function 40 -/
mutual
def impl_NotchesFor.l0 : Nat → Int → List (S71) → Int → Int → Option ((List (S71)) × Int)
  | 0, _, _, _, _ => none
  | k + 1, x0, x4, x5, x6 => if x6 ≥ 0 then (impl_NotchesFor.l1 k x0 x4 x5 x6) else ((impl_ValidHalf.f k false x4 (Vector.replicate 16 0 : Vector Int 16)).bind fun t197 => (if t197 = true then (some (x4, 0)) else (some (([] : List (S71)), 3))))
def impl_NotchesFor.l1 : Nat → Int → List (S71) → Int → Int → Option ((List (S71)) × Int)
  | 0, _, _, _, _ => none
  | k + 1, x0, x4, x5, x6 => (impl_worth.f x6).bind fun t198 => (if x0 ≥ t198 then (if x4.length < 35184372088832 then ((some (x4 ++ [(⟨IntKind.i8.wrap (x6), IntKind.i16.wrap (x5)⟩ : S71)] : List (S71))).bind fun y199 => ((impl_width.f x6).bind fun t202 => (if (y199.length : Int) > 60 then (some (([] : List (S71)), 3)) else ((impl_worth.f x6).bind fun t203 => (impl_NotchesFor.l1 k (wrap64 (x0 - t203)) y199 (wrap64 (x5 + (wrap64 (t202 + 1)))) x6))))) else (none)) else (impl_NotchesFor.l0 k x0 x4 x5 (wrap64 (x6 - 1))))
end
def impl_NotchesFor.f (k : Nat) (a0 : Int) : Option ((List (S71)) × Int) := (impl_isAmount.f a0).bind fun t193 => (if t193 = true then (impl_NotchesFor.l0 k a0 (([] : List (S71))) 0 5) else (some (([] : List (S71)), 2)))
theorem impl_NotchesFor.mono_l : ∀ k, (∀ y0 y1 y2 y3, LeO (impl_NotchesFor.l0 k y0 y1 y2 y3) (impl_NotchesFor.l0 (k + 1) y0 y1 y2 y3)) ∧ (∀ y0 y1 y2 y3, LeO (impl_NotchesFor.l1 k y0 y1 y2 y3) (impl_NotchesFor.l1 (k + 1) y0 y1 y2 y3))
  | 0 => ⟨fun _ _ _ _ r h => by simp [impl_NotchesFor.l0] at h, fun _ _ _ _ r h => by simp [impl_NotchesFor.l1] at h⟩
  | k + 1 => by
    obtain ⟨ih0, ih1⟩ := impl_NotchesFor.mono_l k
    refine ⟨?_, ?_⟩
    · intro y0 y1 y2 y3
      unfold impl_NotchesFor.l0
      repeat' first
      | (with_reducible exact ih0 _ _ _ _)
      | (with_reducible exact ih1 _ _ _ _)
      | (with_reducible exact impl_ValidHalf.mono _ _ _ _)
      | (with_reducible exact LeO.refl _)
      | (with_reducible exact LeO.none _)
      | (with_reducible refine LeO.ite ?_ ?_)
      | (with_reducible refine LeO.bind ?_ (fun _ => ?_))
      | exact ih0 _ _ _ _
      | exact ih1 _ _ _ _
      | exact impl_ValidHalf.mono _ _ _ _
      | exact LeO.none _
      | refine LeO.ite ?_ ?_
      | refine LeO.bind ?_ (fun _ => ?_)
    · intro y0 y1 y2 y3
      unfold impl_NotchesFor.l1
      repeat' first
      | (with_reducible exact ih0 _ _ _ _)
      | (with_reducible exact ih1 _ _ _ _)
      | (with_reducible exact impl_ValidHalf.mono _ _ _ _)
      | (with_reducible exact LeO.refl _)
      | (with_reducible exact LeO.none _)
      | (with_reducible refine LeO.ite ?_ ?_)
      | (with_reducible refine LeO.bind ?_ (fun _ => ?_))
      | exact ih0 _ _ _ _
      | exact ih1 _ _ _ _
      | exact impl_ValidHalf.mono _ _ _ _
      | exact LeO.none _
      | refine LeO.ite ?_ ?_
      | refine LeO.bind ?_ (fun _ => ?_)
theorem impl_NotchesFor.mono : ∀ a0 k, LeO (impl_NotchesFor.f k a0) (impl_NotchesFor.f (k + 1) a0) := by
  intro a0 k
  obtain ⟨ih0, ih1⟩ := impl_NotchesFor.mono_l k
  unfold impl_NotchesFor.f
  repeat' first
      | (with_reducible exact ih0 _ _ _ _)
      | (with_reducible exact ih1 _ _ _ _)
      | (with_reducible exact impl_ValidHalf.mono _ _ _ _)
      | (with_reducible exact LeO.refl _)
      | (with_reducible exact LeO.none _)
      | (with_reducible refine LeO.ite ?_ ?_)
      | (with_reducible refine LeO.bind ?_ (fun _ => ?_))
      | exact ih0 _ _ _ _
      | exact ih1 _ _ _ _
      | exact impl_ValidHalf.mono _ _ _ _
      | exact LeO.none _
      | refine LeO.ite ?_ ?_
      | refine LeO.bind ?_ (fun _ => ?_)
set_option maxHeartbeats 8000000 in
set_option maxRecDepth 100000 in
theorem impl_NotchesFor.calls (k : Nat) (a0 : Int) (r1 : List (S71)) (r2 : Int) (w : World) (h : impl_NotchesFor.f k a0 = some (r1, r2)) :
    Calls Try.prog 40 #[.int .i64 a0] w fun e w' => ∃ v0_ : Value, e = .returned (.tuple #[v0_, .int .i64 r2]) ∧ Kd.R k71 71 w' w.heap.size (fun _ => True) v0_ r1 ∧ Below w.heap.size w w' := by
  have hu71 := Try.underlying71
  have hu27 := Try.underlying27
  have HB := Aside0.mk (Below.refl w.heap.size w)
  have H : ((impl_isAmount.f a0).bind fun t193 => (if t193 = true then (impl_NotchesFor.l0 k a0 (([] : List (S71))) 0 5) else (some (([] : List (S71)), 2)))) = some (r1, r2) := h
  clear h
  replace H := Option.bind_eq_some_iff.mp H
  obtain ⟨t193, A20, H⟩ := H
  replace H : (if t193 = true then (impl_NotchesFor.l0 k a0 (([] : List (S71))) 0 5) else (some (([] : List (S71)), 2))) = some (r1, r2) := H
  have A2 := Aside0.mk A20
  clear A20
  by_cases c3 : t193 = true
  · subst c3
    have H1 : (impl_NotchesFor.l0 k a0 (([] : List (S71))) 0 5) = some (r1, r2) := by rw [if_pos rfl] at H; exact H
    clear H
    have H := H1
    clear H1
    obtain ⟨y194, hy194⟩ : ∃ y_ : List (S71), y_ = (([] : List (S71))) := ⟨_, rfl⟩
    replace H : (impl_NotchesFor.l0 k a0 y194 0 5) = some (r1, r2) := by first | (rw [hy194]; with_reducible exact H) | (have H2_ := (Option.bind_some _ _).symm.trans H; rw [hy194]; with_reducible exact H2_) | (have H2_ := (Option.bind_some _ _).symm.trans H; with_reducible exact H2_) | with_reducible exact H | (rw [hy194]; exact H) | exact H
    have Ny194 := Aside0.mk hy194
    clear hy194
    have H' := Aside0.mk H
    clear H
    go_enter Try.func40, Try.ntmps40
    go_wp2_with (first | ((with_reducible refine gate_callee (f := 72) rfl ?_); refine goesL_ (some 8) rfl rfl Try.func72 (by kernel_rfl) rfl #[.int .i64 a0] rfl (by (try simp only [List.map_toArray, List.map_cons, List.map_nil]); first | done | (go_simp; done) | rfl | (simp only [List.length_drop, List.length_take]; rfl)) ?_; (with_reducible refine (impl_isAmount.calls a0 true _ A2.out).mono ?_); rintro e w' ⟨rfl, ⟨nd, rfl⟩⟩; refine ⟨_, rfl, ?_⟩) | ((with_reducible refine gate_dst (N := 10) rfl ?_); refine Kd.R_lit k71 _ 71 ?hg (N := 10) ?hd (xs := ([] : List (S71))) (inner := []) (ok := fun _ => True) (okp := fun _ => True) ?hr ?hp (fun _ hk => hk) trivial (Below.refl _ _) (Nat.le_refl _) (by simp) ?_; (case hd => rfl); (case hg => rfl); (case hr => first | (go_simp; done) | (go_simp; rfl)); (case hp => exact (Reps.none _ _)); intro v195 w4 ho5 hb hg_ hnew_; clear hg_ hnew_; (first | rw [← Ny194.out] at ho5 | (simp only [Int.reduceToNat] at ho5; rw [← Ny194.out] at ho5)); have n0_ := Aside0.mk (Kd.R_lower ho5 (below_size (by repeat (first | (with_reducible first | exact HB.out | apply below_alloc | apply pw_below_drewN | apply below_drew1) | exact HB.out)))); have n1_ := Aside0.mk (below_step (by repeat (first | (with_reducible first | exact HB.out | apply below_alloc | apply pw_below_drewN | apply below_drew1) | exact HB.out)) hb); clear HB; have HO196 := n0_; have HB := n1_; clear n0_ n1_; clear hb ho5))
    go_loopg [0, 4, 5, 6] k (fun kq v0 v4 v5 v6 w' => ∃ (x0_1 : Int) (x4_1 : List (S71)) (x5_1 : Int) (x6_1 : Int), v0 = .int .i64 x0_1 ∧ v5 = .int .i64 x5_1 ∧ v6 = .int .i64 x6_1 ∧ Aside0 (impl_NotchesFor.l0 kq x0_1 x4_1 x5_1 x6_1 = some (r1, r2)) ∧ Aside0 (kq ≤ k) ∧ Aside0 (Kd.R k71 71 w' w.heap.size (fun _ => True) v4 x4_1) ∧ Aside0 (Below w.heap.size w w'))
    case atStart => exact ⟨(a0), (y194), (0), (5), (by first | rfl | (simp; done) | (simp [*]; done)), (by first | rfl | (simp; done) | (simp [*]; done)), (by first | rfl | (simp; done) | (simp [*]; done)), H', ⟨Nat.le_refl _⟩, ⟨by (with_reducible repeat (first | apply Kd.R_alloc | apply Kd.R_drewN | apply Kd.R_drew)); exact HO196.out⟩, ⟨by repeat (first | (with_reducible first | exact HB.out | apply below_alloc | apply pw_below_drewN | apply below_drew1) | exact HB.out)⟩⟩
    case round =>
      clear H'
      try clear p2
      try clear c3
      try clear c4
      obtain ⟨x0_1, x4_1, x5_1, x6_1, rfl, rfl, rfl, HA, HK1, HO_4, HB⟩ := hrel
      cases gk with
      | zero => exact absurd HA.out (by simp [impl_NotchesFor.l0])
      | succ k1 =>
        have H := HA.out
        clear HA
        simp only [impl_NotchesFor.l0] at H
        by_cases c6 : x6_1 ≥ 0
        · rw [if_pos c6] at H
          have c6b0 : decide (0 ≤ x6_1) = true := decide_eq_true c6
          clear c6
          have H' := Aside0.mk H
          clear H
          go_wp2
          go_loopg [0, 4, 5] k1 (fun kq v0 v4 v5 w' => ∃ (x0_2 : Int) (x4_2 : List (S71)) (x5_2 : Int), v0 = .int .i64 x0_2 ∧ v5 = .int .i64 x5_2 ∧ Aside0 (impl_NotchesFor.l1 kq x0_2 x4_2 x5_2 x6_1 = some (r1, r2)) ∧ Aside0 (kq ≤ k1) ∧ Aside0 (Kd.R k71 71 w' w.heap.size (fun _ => True) v4 x4_2) ∧ Aside0 (Below w.heap.size w w'))
          case atStart => exact ⟨(x0_1), (x4_1), (x5_1), (by first | rfl | (simp; done) | (simp [*]; done)), (by first | rfl | (simp; done) | (simp [*]; done)), H', ⟨Nat.le_refl _⟩, ⟨by (with_reducible repeat (first | apply Kd.R_alloc | apply Kd.R_drewN | apply Kd.R_drew)); exact HO_4.out⟩, ⟨by repeat (first | (with_reducible first | exact HB.out | apply below_alloc | apply pw_below_drewN | apply below_drew1) | exact HB.out)⟩⟩
          case round =>
            clear H'
            try clear p2
            try clear c3
            try clear c4
            try clear c6
            try clear c6b0
            try clear p2
            obtain ⟨x0_2, x4_2, x5_2, rfl, rfl, HA, HK2, HO_4, HB⟩ := hrel
            cases gk with
            | zero => exact absurd HA.out (by simp [impl_NotchesFor.l1])
            | succ k2 =>
              have H := HA.out
              clear HA
              simp only [impl_NotchesFor.l1] at H
              replace H := Option.bind_eq_some_iff.mp H
              obtain ⟨t198, A70, H⟩ := H
              replace H : (if x0_2 ≥ t198 then (if x4_2.length < 35184372088832 then ((some (x4_2 ++ [(⟨IntKind.i8.wrap (x6_1), IntKind.i16.wrap (x5_2)⟩ : S71)] : List (S71))).bind fun y199 => ((impl_width.f x6_1).bind fun t202 => (if (y199.length : Int) > 60 then (some (([] : List (S71)), 3)) else ((impl_worth.f x6_1).bind fun t203 => (impl_NotchesFor.l1 k2 (wrap64 (x0_2 - t203)) y199 (wrap64 (x5_2 + (wrap64 (t202 + 1)))) x6_1))))) else (none)) else (impl_NotchesFor.l0 k2 x0_2 x4_2 x5_2 (wrap64 (x6_1 - 1)))) = some (r1, r2) := H
              have A7 := Aside0.mk A70
              clear A70
              by_cases c8 : x0_2 ≥ t198
              · rw [if_pos c8] at H
                have c8b0 : decide (t198 ≤ x0_2) = true := decide_eq_true c8
                clear c8
                by_cases c9 : x4_2.length < 35184372088832
                · rw [if_pos c9] at H
                  have LMc9 := Aside0.mk c9
                  clear c9
                  obtain ⟨y199, hy199⟩ : ∃ y_ : List (S71), y_ = (x4_2 ++ [(⟨IntKind.i8.wrap (x6_1), IntKind.i16.wrap (x5_2)⟩ : S71)]) := ⟨_, rfl⟩
                  replace H : ((impl_width.f x6_1).bind fun t202 => (if (y199.length : Int) > 60 then (some (([] : List (S71)), 3)) else ((impl_worth.f x6_1).bind fun t203 => (impl_NotchesFor.l1 k2 (wrap64 (x0_2 - t203)) y199 (wrap64 (x5_2 + (wrap64 (t202 + 1)))) x6_1)))) = some (r1, r2) := by first | (rw [hy199]; with_reducible exact H) | (have H2_ := (Option.bind_some _ _).symm.trans H; rw [hy199]; with_reducible exact H2_) | (have H2_ := (Option.bind_some _ _).symm.trans H; with_reducible exact H2_) | with_reducible exact H | (rw [hy199]; exact H) | exact H
                  have Ny199 := Aside0.mk hy199
                  clear hy199
                  replace H := Option.bind_eq_some_iff.mp H
                  obtain ⟨t202, A100, H⟩ := H
                  replace H : (if (y199.length : Int) > 60 then (some (([] : List (S71)), 3)) else ((impl_worth.f x6_1).bind fun t203 => (impl_NotchesFor.l1 k2 (wrap64 (x0_2 - t203)) y199 (wrap64 (x5_2 + (wrap64 (t202 + 1)))) x6_1))) = some (r1, r2) := H
                  have A10 := Aside0.mk A100
                  clear A100
                  by_cases c11 : (y199.length : Int) > 60
                  · rw [if_pos c11] at H
                    have c11b0 : decide (60 < (y199.length : Int)) = true := decide_eq_true c11
                    have c11b1 : decide (60 < y199.length) = true := decide_eq_true (by omega)
                    clear c11
                    simp only [Option.some.injEq, Prod.mk.injEq] at H
                    obtain ⟨rfl, rfl⟩ := H
                    go_wp2_with (first | ((with_reducible refine gate_callee (f := 73) rfl ?_); refine goesL_ (some 17) rfl rfl Try.func73 (by kernel_rfl) rfl #[.int .i64 x6_1] rfl (by (try simp only [List.map_toArray, List.map_cons, List.map_nil]); first | done | (go_simp; done) | rfl | (simp only [List.length_drop, List.length_take]; rfl)) ?_; (with_reducible refine (impl_worth.calls x6_1 t198 _ A7.out).mono ?_); rintro e w12 ⟨rfl, hb⟩; refine ⟨_, rfl, ?_⟩; have n0_ := Aside0.mk (Kd.R_below (by (with_reducible repeat (first | apply Kd.R_alloc | apply Kd.R_drewN | apply Kd.R_drew)); exact HO_4.out) hb); have n1_ := Aside0.mk (below_step (by repeat (first | (with_reducible first | exact HB.out | apply below_alloc | apply pw_below_drewN | apply below_drew1) | exact HB.out)) hb); clear HO_4; clear HB; have HO_4 := n0_; have HB := n1_; clear n0_ n1_; (try clear hb); (try clear hb2); (try clear hk); (try clear hi)) | ((with_reducible refine gate_builtin (b := .append) (xs := #[.tmp 23, .tmp 29]) rfl ?_); at_builtin; refine Kd.R_append k71 (w0 := w) w.heap.size rfl (.tmp 23) (.tmp 29) 24 71 (.agg #[(.int .i8 0), (.int .i16 0)]) 4 rfl Try.underlying24 info71 rfl (by decide) (by omega) u4 x4_2 (⟨IntKind.i8.wrap (x6_1), IntKind.i16.wrap (x5_2)⟩ : S71) [.int .i8 (IntKind.i8.wrap (x6_1)), .int .i16 (IntKind.i16.wrap (x5_2))] (fun _ => True) (fun _ => False) rfl rfl ?aP (fun _ hk => hk.elim) ?aF ?aO ?aB ?aS ?aL ?_; (case aP => exact k71_mkM _ _ _ (⟨IntKind.i8.wrap (x6_1), IntKind.i16.wrap (x5_2)⟩ : S71)); (case aB => exact (by repeat (first | (with_reducible first | exact HB.out | apply below_alloc | apply pw_below_drewN | apply below_drew1) | exact HB.out))); (case aF => exact (fun _ _ => trivial)); (case aO => exact (by (with_reducible repeat (first | apply Kd.R_alloc | apply Kd.R_drewN | apply Kd.R_drew)); exact HO_4.out)); (case aS => exact (below_size (by repeat (first | (with_reducible first | exact HB.out | apply below_alloc | apply pw_below_drewN | apply below_drew1) | exact HB.out)))); (case aL => have := LMc9.out; omega); intro v200 w13 ho hb hg hat; rw [← Ny199.out] at ho; have n0_ := Aside0.mk (hb); have n1_ := Aside0.mk (ho); clear HB; clear HO_4; have HB := n0_; have HO201 := n1_; clear n0_ n1_; clear ho hb hg hat) | ((with_reducible refine gate_callee (f := 74) rfl ?_); refine goesL_ (some 33) rfl rfl Try.func74 (by kernel_rfl) rfl #[.int .i64 x6_1] rfl (by (try simp only [List.map_toArray, List.map_cons, List.map_nil]); first | done | (go_simp; done) | rfl | (simp only [List.length_drop, List.length_take]; rfl)) ?_; (with_reducible refine (impl_width.calls x6_1 t202 _ A10.out).mono ?_); rintro e w14 ⟨rfl, hb⟩; refine ⟨_, rfl, ?_⟩; have n0_ := Aside0.mk (Kd.R_below (by (with_reducible repeat (first | apply Kd.R_alloc | apply Kd.R_drewN | apply Kd.R_drew)); exact HO201.out) hb); have n1_ := Aside0.mk (below_step (by repeat (first | (with_reducible first | exact HB.out | apply below_alloc | apply pw_below_drewN | apply below_drew1) | exact HB.out)) hb); clear HO201; clear HB; have HO201 := n0_; have HB := n1_; clear n0_ n1_; (try clear hb); (try clear hb2); (try clear hk); (try clear hi); obtain ⟨Ao15, co15, eo15⟩ := Kd.R_slice HO201.out; subst eo15))
                    go_ret2
                    exact ⟨_, by first | rfl | (simp [errW_none, errW_some] <;> rfl) | (simp [*, errW_none, errW_some] <;> rfl), by first | exact Kd.R_nil _ _ _ _ _ | exact Kd.N_nil _ _ _ _ _ | exact Kd.V_nil _ _ _ _ _ | exact Kd.Q_nil _ _ _ _ _ | exact Kd.S_nil _ _ _ _ _, by repeat (first | (with_reducible first | exact HB.out | apply below_alloc | apply pw_below_drewN | apply below_drew1) | exact HB.out)⟩
                  · rw [if_neg c11] at H
                    have c11b0 : decide (60 < (y199.length : Int)) = false := decide_eq_false c11
                    have c11b1 : decide (60 < y199.length) = false := decide_eq_false (by omega)
                    clear c11
                    replace H := Option.bind_eq_some_iff.mp H
                    obtain ⟨t203, A160, H⟩ := H
                    replace H : (impl_NotchesFor.l1 k2 (wrap64 (x0_2 - t203)) y199 (wrap64 (x5_2 + (wrap64 (t202 + 1)))) x6_1) = some (r1, r2) := H
                    have A16 := Aside0.mk A160
                    clear A160
                    have H' := Aside0.mk H
                    clear H
                    go_wp2_with (first | ((with_reducible refine gate_callee (f := 73) rfl ?_); refine goesL_ (some 17) rfl rfl Try.func73 (by kernel_rfl) rfl #[.int .i64 x6_1] rfl (by (try simp only [List.map_toArray, List.map_cons, List.map_nil]); first | done | (go_simp; done) | rfl | (simp only [List.length_drop, List.length_take]; rfl)) ?_; (with_reducible refine (impl_worth.calls x6_1 t198 _ A7.out).mono ?_); rintro e w17 ⟨rfl, hb⟩; refine ⟨_, rfl, ?_⟩; have n0_ := Aside0.mk (Kd.R_below (by (with_reducible repeat (first | apply Kd.R_alloc | apply Kd.R_drewN | apply Kd.R_drew)); exact HO_4.out) hb); have n1_ := Aside0.mk (below_step (by repeat (first | (with_reducible first | exact HB.out | apply below_alloc | apply pw_below_drewN | apply below_drew1) | exact HB.out)) hb); clear HO_4; clear HB; have HO_4 := n0_; have HB := n1_; clear n0_ n1_; (try clear hb); (try clear hb2); (try clear hk); (try clear hi)) | ((with_reducible refine gate_builtin (b := .append) (xs := #[.tmp 23, .tmp 29]) rfl ?_); at_builtin; refine Kd.R_append k71 (w0 := w) w.heap.size rfl (.tmp 23) (.tmp 29) 24 71 (.agg #[(.int .i8 0), (.int .i16 0)]) 4 rfl Try.underlying24 info71 rfl (by decide) (by omega) u4 x4_2 (⟨IntKind.i8.wrap (x6_1), IntKind.i16.wrap (x5_2)⟩ : S71) [.int .i8 (IntKind.i8.wrap (x6_1)), .int .i16 (IntKind.i16.wrap (x5_2))] (fun _ => True) (fun _ => False) rfl rfl ?aP (fun _ hk => hk.elim) ?aF ?aO ?aB ?aS ?aL ?_; (case aP => exact k71_mkM _ _ _ (⟨IntKind.i8.wrap (x6_1), IntKind.i16.wrap (x5_2)⟩ : S71)); (case aB => exact (by repeat (first | (with_reducible first | exact HB.out | apply below_alloc | apply pw_below_drewN | apply below_drew1) | exact HB.out))); (case aF => exact (fun _ _ => trivial)); (case aO => exact (by (with_reducible repeat (first | apply Kd.R_alloc | apply Kd.R_drewN | apply Kd.R_drew)); exact HO_4.out)); (case aS => exact (below_size (by repeat (first | (with_reducible first | exact HB.out | apply below_alloc | apply pw_below_drewN | apply below_drew1) | exact HB.out)))); (case aL => have := LMc9.out; omega); intro v200 w18 ho hb hg hat; rw [← Ny199.out] at ho; have n0_ := Aside0.mk (hb); have n1_ := Aside0.mk (ho); clear HB; clear HO_4; have HB := n0_; have HO201 := n1_; clear n0_ n1_; clear ho hb hg hat) | ((with_reducible refine gate_callee (f := 74) rfl ?_); refine goesL_ (some 33) rfl rfl Try.func74 (by kernel_rfl) rfl #[.int .i64 x6_1] rfl (by (try simp only [List.map_toArray, List.map_cons, List.map_nil]); first | done | (go_simp; done) | rfl | (simp only [List.length_drop, List.length_take]; rfl)) ?_; (with_reducible refine (impl_width.calls x6_1 t202 _ A10.out).mono ?_); rintro e w19 ⟨rfl, hb⟩; refine ⟨_, rfl, ?_⟩; have n0_ := Aside0.mk (Kd.R_below (by (with_reducible repeat (first | apply Kd.R_alloc | apply Kd.R_drewN | apply Kd.R_drew)); exact HO201.out) hb); have n1_ := Aside0.mk (below_step (by repeat (first | (with_reducible first | exact HB.out | apply below_alloc | apply pw_below_drewN | apply below_drew1) | exact HB.out)) hb); clear HO201; clear HB; have HO201 := n0_; have HB := n1_; clear n0_ n1_; (try clear hb); (try clear hb2); (try clear hk); (try clear hi); obtain ⟨Ao20, co20, eo20⟩ := Kd.R_slice HO201.out; subst eo20) | ((with_reducible refine gate_callee (f := 73) rfl ?_); refine goesL_ (some 21) rfl rfl Try.func73 (by kernel_rfl) rfl #[.int .i64 x6_1] rfl (by (try simp only [List.map_toArray, List.map_cons, List.map_nil]); first | done | (go_simp; done) | rfl | (simp only [List.length_drop, List.length_take]; rfl)) ?_; (with_reducible refine (impl_worth.calls x6_1 t203 _ A16.out).mono ?_); rintro e w21 ⟨rfl, hb⟩; refine ⟨_, rfl, ?_⟩; have n0_ := Aside0.mk (Kd.R_below (by (with_reducible repeat (first | apply Kd.R_alloc | apply Kd.R_drewN | apply Kd.R_drew)); exact HO201.out) hb); have n1_ := Aside0.mk (below_step (by repeat (first | (with_reducible first | exact HB.out | apply below_alloc | apply pw_below_drewN | apply below_drew1) | exact HB.out)) hb); clear HO201; clear HB; have HO201 := n0_; have HB := n1_; clear n0_ n1_; (try clear hb); (try clear hb2); (try clear hk); (try clear hi)))
                    go_roundg k2
                    case measure => have := HK1.out; have := HK2.out; omega
                    case rel => exact ⟨(wrap64 (x0_2 - t203)), (y199), (wrap64 (x5_2 + (wrap64 (t202 + 1)))), (by first | rfl | (simp; done) | (simp [*]; done)), (by first | rfl | (simp; done) | (simp [*]; done)), H', ⟨by have := HK1.out; have := HK2.out; omega⟩, ⟨by (with_reducible repeat (first | apply Kd.R_alloc | apply Kd.R_drewN | apply Kd.R_drew)); exact HO201.out⟩, ⟨by repeat (first | (with_reducible first | exact HB.out | apply below_alloc | apply pw_below_drewN | apply below_drew1) | exact HB.out)⟩⟩
                · rw [if_neg c9] at H
                  exact absurd H (by simp)
              · rw [if_neg c8] at H
                have c8b0 : decide (t198 ≤ x0_2) = false := decide_eq_false c8
                clear c8
                have H' := Aside0.mk H
                clear H
                go_wp2_with (first | ((with_reducible refine gate_callee (f := 73) rfl ?_); refine goesL_ (some 17) rfl rfl Try.func73 (by kernel_rfl) rfl #[.int .i64 x6_1] rfl (by (try simp only [List.map_toArray, List.map_cons, List.map_nil]); first | done | (go_simp; done) | rfl | (simp only [List.length_drop, List.length_take]; rfl)) ?_; (with_reducible refine (impl_worth.calls x6_1 t198 _ A7.out).mono ?_); rintro e w22 ⟨rfl, hb⟩; refine ⟨_, rfl, ?_⟩; have n0_ := Aside0.mk (Kd.R_below (by (with_reducible repeat (first | apply Kd.R_alloc | apply Kd.R_drewN | apply Kd.R_drew)); exact HO_4.out) hb); have n1_ := Aside0.mk (below_step (by repeat (first | (with_reducible first | exact HB.out | apply below_alloc | apply pw_below_drewN | apply below_drew1) | exact HB.out)) hb); clear HO_4; clear HB; have HO_4 := n0_; have HB := n1_; clear n0_ n1_; (try clear hb); (try clear hb2); (try clear hk); (try clear hi)))
                go_roundg k2
                case measure => have := HK1.out; have := HK2.out; omega
                case rel => exact ⟨(x0_2), (x4_2), (x5_2), (wrap64 (x6_1 - 1)), (by first | rfl | (simp; done) | (simp [*]; done)), (by first | rfl | (simp; done) | (simp [*]; done)), (by first | rfl | (simp; done) | (simp [*]; done)), H', ⟨by have := HK1.out; have := HK2.out; omega⟩, ⟨by (with_reducible repeat (first | apply Kd.R_alloc | apply Kd.R_drewN | apply Kd.R_drew)); exact HO_4.out⟩, ⟨by repeat (first | (with_reducible first | exact HB.out | apply below_alloc | apply pw_below_drewN | apply below_drew1) | exact HB.out)⟩⟩
        · rw [if_neg c6] at H
          have c6b0 : decide (0 ≤ x6_1) = false := decide_eq_false c6
          clear c6
          replace H := Option.bind_eq_some_iff.mp H
          obtain ⟨t197, A230, H⟩ := H
          replace H : (if t197 = true then (some (x4_1, 0)) else (some (([] : List (S71)), 3))) = some (r1, r2) := H
          have A23 := Aside0.mk A230
          clear A230
          by_cases c24 : t197 = true
          · subst c24
            have H1 : (some (x4_1, 0)) = some (r1, r2) := by rw [if_pos rfl] at H; exact H
            clear H
            have H := H1
            clear H1
            simp only [Option.some.injEq, Prod.mk.injEq] at H
            obtain ⟨rfl, rfl⟩ := H
            obtain ⟨Ao25, co25, eo25⟩ := Kd.R_slice HO_4.out
            subst eo25
            go_wp2_with (first | ((with_reducible refine gate_callee (f := 21) rfl ?_); refine goesL_ (some 41) rfl rfl Try.func21 (by kernel_rfl) rfl #[.agg (⟨(.bool false) :: (.slice Ao25 x4_1.length co25) :: Arr.arL .i8 (Vector.replicate 16 0 : Vector Int 16)⟩ : Array Value)] rfl (by (try simp only [List.map_toArray, List.map_cons, List.map_nil]); first | done | (go_simp; done) | rfl | (simp only [List.length_drop, List.length_take]; rfl)) ?_; (with_reducible refine (impl_ValidHalf.calls k1 false _ _ x4_1 (Vector.replicate 16 0 : Vector Int 16) true _ ?side1 ?side2 A23.out).mono ?_); (case side1 => repeat (first | exact (Kd.R_reads' HO_4.out).2.2 | (with_reducible refine Kd.C_alloc ?_ _) | (with_reducible refine Kd.C_drewN ?_ _) | (with_reducible refine Kd.C_drew ?_))); (case side2 => exact (Kd.R_reads' HO_4.out).2.1); rintro e w26 ⟨rfl, hb⟩; refine ⟨_, rfl, ?_⟩; have n0_ := Aside0.mk (Kd.R_below (by (with_reducible repeat (first | apply Kd.R_alloc | apply Kd.R_drewN | apply Kd.R_drew)); exact HO_4.out) hb); have n1_ := Aside0.mk (below_step (by repeat (first | (with_reducible first | exact HB.out | apply below_alloc | apply pw_below_drewN | apply below_drew1) | exact HB.out)) hb); clear HO_4; clear HB; have HO_4 := n0_; have HB := n1_; clear n0_ n1_; (try clear hb); (try clear hb2); (try clear hk); (try clear hi)))
            go_ret2
            exact ⟨_, by first | rfl | (simp [errW_none, errW_some] <;> rfl) | (simp [*, errW_none, errW_some] <;> rfl), by (with_reducible repeat (first | apply Kd.R_alloc | apply Kd.R_drewN | apply Kd.R_drew)); exact HO_4.out, by repeat (first | (with_reducible first | exact HB.out | apply below_alloc | apply pw_below_drewN | apply below_drew1) | exact HB.out)⟩
          · replace c24 := Bool.eq_false_iff.mpr c24
            subst c24
            have H1 : (some (([] : List (S71)), 3)) = some (r1, r2) := by rw [if_neg (show ¬ (false = true) by decide)] at H; exact H
            clear H
            have H := H1
            clear H1
            simp only [Option.some.injEq, Prod.mk.injEq] at H
            obtain ⟨rfl, rfl⟩ := H
            obtain ⟨Ao27, co27, eo27⟩ := Kd.R_slice HO_4.out
            subst eo27
            go_wp2_with (first | ((with_reducible refine gate_callee (f := 21) rfl ?_); refine goesL_ (some 41) rfl rfl Try.func21 (by kernel_rfl) rfl #[.agg (⟨(.bool false) :: (.slice Ao27 x4_1.length co27) :: Arr.arL .i8 (Vector.replicate 16 0 : Vector Int 16)⟩ : Array Value)] rfl (by (try simp only [List.map_toArray, List.map_cons, List.map_nil]); first | done | (go_simp; done) | rfl | (simp only [List.length_drop, List.length_take]; rfl)) ?_; (with_reducible refine (impl_ValidHalf.calls k1 false _ _ x4_1 (Vector.replicate 16 0 : Vector Int 16) false _ ?side1 ?side2 A23.out).mono ?_); (case side1 => repeat (first | exact (Kd.R_reads' HO_4.out).2.2 | (with_reducible refine Kd.C_alloc ?_ _) | (with_reducible refine Kd.C_drewN ?_ _) | (with_reducible refine Kd.C_drew ?_))); (case side2 => exact (Kd.R_reads' HO_4.out).2.1); rintro e w28 ⟨rfl, hb⟩; refine ⟨_, rfl, ?_⟩; have n0_ := Aside0.mk (Kd.R_below (by (with_reducible repeat (first | apply Kd.R_alloc | apply Kd.R_drewN | apply Kd.R_drew)); exact HO_4.out) hb); have n1_ := Aside0.mk (below_step (by repeat (first | (with_reducible first | exact HB.out | apply below_alloc | apply pw_below_drewN | apply below_drew1) | exact HB.out)) hb); clear HO_4; clear HB; have HO_4 := n0_; have HB := n1_; clear n0_ n1_; (try clear hb); (try clear hb2); (try clear hk); (try clear hi)))
            go_ret2
            exact ⟨_, by first | rfl | (simp [errW_none, errW_some] <;> rfl) | (simp [*, errW_none, errW_some] <;> rfl), by first | exact Kd.R_nil _ _ _ _ _ | exact Kd.N_nil _ _ _ _ _ | exact Kd.V_nil _ _ _ _ _ | exact Kd.Q_nil _ _ _ _ _ | exact Kd.S_nil _ _ _ _ _, by repeat (first | (with_reducible first | exact HB.out | apply below_alloc | apply pw_below_drewN | apply below_drew1) | exact HB.out)⟩
  · replace c3 := Bool.eq_false_iff.mpr c3
    subst c3
    have H1 : (some (([] : List (S71)), 2)) = some (r1, r2) := by rw [if_neg (show ¬ (false = true) by decide)] at H; exact H
    clear H
    have H := H1
    clear H1
    simp only [Option.some.injEq, Prod.mk.injEq] at H
    obtain ⟨rfl, rfl⟩ := H
    go_enter Try.func40, Try.ntmps40
    go_wp2_with (first | ((with_reducible refine gate_callee (f := 72) rfl ?_); refine goesL_ (some 8) rfl rfl Try.func72 (by kernel_rfl) rfl #[.int .i64 a0] rfl (by (try simp only [List.map_toArray, List.map_cons, List.map_nil]); first | done | (go_simp; done) | rfl | (simp only [List.length_drop, List.length_take]; rfl)) ?_; (with_reducible refine (impl_isAmount.calls a0 false _ A2.out).mono ?_); rintro e w' ⟨rfl, ⟨nd, rfl⟩⟩; refine ⟨_, rfl, ?_⟩))
    go_ret2
    exact ⟨_, by first | rfl | (simp [errW_none, errW_some] <;> rfl) | (simp [*, errW_none, errW_some] <;> rfl), by first | exact Kd.R_nil _ _ _ _ _ | exact Kd.N_nil _ _ _ _ _ | exact Kd.V_nil _ _ _ _ _ | exact Kd.Q_nil _ _ _ _ _ | exact Kd.S_nil _ _ _ _ _, by repeat (first | (with_reducible first | exact HB.out | apply below_alloc | apply pw_below_drewN | apply below_drew1) | exact HB.out)⟩

/-! ### impl_Notch: function 41 -/
def impl_Notch.f (l0 : List (S71)) : Option ((List (S71))) := (some (([] : List (S71)) : List (S71))).bind fun y204 => (if y204.length + l0.length < 35184372088832 then (some (y204 ++ l0)) else (none))
set_option maxHeartbeats 8000000 in
set_option maxRecDepth 100000 in
theorem impl_Notch.calls (A0 : Option Addr) (c0 : Nat) (l0 : List (S71)) (r : List (S71)) (w : World) (hr0 : Kd.C k71 w A0 l0.length l0) (hc0 : l0.length ≤ c0) (h : impl_Notch.f l0 = some r) :
    Calls Try.prog 41 #[.slice A0 l0.length c0] w fun e w' => ∃ v0_ : Value, e = .returned (v0_) ∧ Kd.R k71 71 w' w.heap.size (fun _ => True) v0_ r ∧ Below w.heap.size w w' := by
  rcases A0 with _ | A0
  · obtain rfl : l0 = [] := by
      cases l0 with
      | nil => rfl
      | cons a l => obtain ⟨ad, e, _⟩ := hr0.2.2 (by simp); cases e
    have hr : r = [] := by
      have h2 := h
      simp [impl_Notch.f] at h2
      first | exact h2 | exact h2.symm
    subst hr
    have hq_ := fun (w : World) (a : Option Addr) (n c n1 c1 : Nat) => Lib.run_eql_slice_nil (P := Try.prog) w 24 71 a n c n1 c1 Try.underlying24
    go_enter Try.func41, Try.ntmps41
    go_wp2
    go_ret
    exact ⟨_, rfl, Kd.R_nil _ _ _ _ _, by repeat (first | exact Below.refl _ _ | apply below_alloc | apply pw_below_drewN | apply below_drew1)⟩
  · have hq_ := fun (w : World) (a : Option Addr) (n c n1 c1 : Nat) => Lib.run_eql_slice_nil (P := Try.prog) w 24 71 a n c n1 c1 Try.underlying24
    have HR0 := Aside0.mk hr0
    have HC0 := Aside0.mk hc0
    clear hr0 hc0
    have HB := Aside0.mk (Below.refl w.heap.size w)
    have H : ((some (([] : List (S71)) : List (S71))).bind fun y204 => (if y204.length + l0.length < 35184372088832 then (some (y204 ++ l0)) else (none))) = some r := h
    clear h
    obtain ⟨y204, hy204⟩ : ∃ y_ : List (S71), y_ = (([] : List (S71))) := ⟨_, rfl⟩
    replace H : (if y204.length + l0.length < 35184372088832 then (some (y204 ++ l0)) else (none)) = some r := by first | (rw [hy204]; with_reducible exact H) | (have H2_ := (Option.bind_some _ _).symm.trans H; rw [hy204]; with_reducible exact H2_) | (have H2_ := (Option.bind_some _ _).symm.trans H; with_reducible exact H2_) | with_reducible exact H | (rw [hy204]; exact H) | exact H
    have Ny204 := Aside0.mk hy204
    clear hy204
    by_cases c2 : y204.length + l0.length < 35184372088832
    · rw [if_pos c2] at H
      have LMc2 := Aside0.mk c2
      clear c2
      obtain ⟨y207, hy207⟩ : ∃ y_ : List (S71), y_ = (y204 ++ l0) := ⟨_, rfl⟩
      replace H : (some y207) = some r := by first | (rw [hy207]; with_reducible exact H) | (have H2_ := (Option.bind_some _ _).symm.trans H; rw [hy207]; with_reducible exact H2_) | (have H2_ := (Option.bind_some _ _).symm.trans H; with_reducible exact H2_) | with_reducible exact H | (rw [hy207]; exact H) | exact H
      have Ny207 := Aside0.mk hy207
      clear hy207
      obtain rfl := Option.some.inj H
      go_enter Try.func41, Try.ntmps41
      go_wp2_with (first | ((with_reducible refine gate_dst (N := 5) rfl ?_); refine Kd.R_lit k71 _ 71 ?hg (N := 5) ?hd (xs := ([] : List (S71))) (inner := []) (ok := fun _ => True) (okp := fun _ => True) ?hr ?hp (fun _ hk => hk) trivial (Below.refl _ _) (Nat.le_refl _) (by simp) ?_; (case hd => rfl); (case hg => rfl); (case hr => first | (go_simp; done) | (go_simp; rfl)); (case hp => exact (Reps.none _ _)); intro v205 w3 ho4 hb hg_ hnew_; clear hg_ hnew_; (first | rw [← Ny204.out] at ho4 | (simp only [Int.reduceToNat] at ho4; rw [← Ny204.out] at ho4)); have n0_ := Aside0.mk (Kd.R_lower ho4 (below_size (by repeat (first | (with_reducible first | exact HB.out | apply below_alloc | apply pw_below_drewN | apply below_drew1) | exact HB.out)))); have n1_ := Aside0.mk (below_step (by repeat (first | (with_reducible first | exact HB.out | apply below_alloc | apply pw_below_drewN | apply below_drew1) | exact HB.out)) hb); clear HB; have HO206 := n0_; have HB := n1_; clear n0_ n1_; clear hb ho4) | ((with_reducible refine gate_builtin (b := .append) (xs := #[.tmp 5, .tmp 6]) rfl ?_); at_builtin; refine Kd.R_append_rows k71 (w0 := w) w.heap.size rfl (.tmp 5) (.tmp 6) 24 71 (.agg #[(.int .i8 0), (.int .i16 0)]) 4 rfl Try.underlying24 info71 rfl (by decide) (by omega) v205 y204 l0 _ _ _ (fun _ => True) (fun _ => False) rfl rfl ?aO ?aR (fun _ _ h => h) (fun _ h => h.elim) ?aF ?aB ?aS ?aL ?_; (case aR => repeat (first | exact (Kd.C_below HR0.out HB.out) | (with_reducible refine Kd.C_alloc ?_ _) | (with_reducible refine Kd.C_drewN ?_ _) | (with_reducible refine Kd.C_drew ?_))); (case aB => exact (by repeat (first | (with_reducible first | exact HB.out | apply below_alloc | apply pw_below_drewN | apply below_drew1) | exact HB.out))); (case aF => exact (fun _ _ => trivial)); (case aO => exact (by (with_reducible repeat (first | apply Kd.R_alloc | apply Kd.R_drewN | apply Kd.R_drew)); exact HO206.out)); (case aS => exact (below_size (by repeat (first | (with_reducible first | exact HB.out | apply below_alloc | apply pw_below_drewN | apply below_drew1) | exact HB.out)))); (case aL => have := LMc2.out; omega); intro v208 w5 ho hb hg hat; rw [← Ny207.out] at ho; have n0_ := Aside0.mk (hb); have n1_ := Aside0.mk (ho); clear HB; clear HO206; have HB := n0_; have HO209 := n1_; clear n0_ n1_; clear ho hb hg hat))
      go_ret
      exact ⟨_, by first | rfl | (simp [errW_none, errW_some] <;> rfl) | (simp [*, errW_none, errW_some] <;> rfl), by (with_reducible repeat (first | apply Kd.R_alloc | apply Kd.R_drewN | apply Kd.R_drew)); exact HO209.out, by repeat (first | (with_reducible first | exact HB.out | apply below_alloc | apply pw_below_drewN | apply below_drew1) | exact HB.out)⟩
    · rw [if_neg c2] at H
      exact absurd H (by simp)

/-! ### impl_opposite: function 42 -/
def impl_opposite.l0 : Nat → Int → Vector Int 16 → Option (Vector Int 16)
  | 0, _, _ => none
  | k + 1, x4, x211000 => if x4 < 16 then (if 0 ≤ x4 then (impl_opposite.l0 k (wrap64 (x4 + 1)) (Arr.vst x211000 x4 (IntKind.i8.wrap (-(Arr.vrd x211000 x4))))) else (none)) else (some x211000)
def impl_opposite.f (k : Nat) (a0_0 : Vector Int 16) : Option (Vector Int 16) := impl_opposite.l0 k 0 a0_0
theorem impl_opposite.mono_l : ∀ k, (∀ y0 y1, LeO (impl_opposite.l0 k y0 y1) (impl_opposite.l0 (k + 1) y0 y1))
  | 0 => fun _ _ r h => by simp [impl_opposite.l0] at h
  | k + 1 => by
    have ih0 := impl_opposite.mono_l k
    · intro y0 y1
      unfold impl_opposite.l0
      repeat' first
      | (with_reducible exact ih0 _ _)
      | (with_reducible exact LeO.refl _)
      | (with_reducible exact LeO.none _)
      | (with_reducible refine LeO.ite ?_ ?_)
      | (with_reducible refine LeO.bind ?_ (fun _ => ?_))
      | exact ih0 _ _
      | exact LeO.none _
      | refine LeO.ite ?_ ?_
      | refine LeO.bind ?_ (fun _ => ?_)
theorem impl_opposite.mono : ∀ a0 k, LeO (impl_opposite.f k a0) (impl_opposite.f (k + 1) a0) := by
  intro a0 k
  have ih0 := impl_opposite.mono_l k
  unfold impl_opposite.f
  repeat' first
      | (with_reducible exact ih0 _ _)
      | (with_reducible exact LeO.refl _)
      | (with_reducible exact LeO.none _)
      | (with_reducible refine LeO.ite ?_ ?_)
      | (with_reducible refine LeO.bind ?_ (fun _ => ?_))
      | exact ih0 _ _
      | exact LeO.none _
      | refine LeO.ite ?_ ?_
      | refine LeO.bind ?_ (fun _ => ?_)
set_option maxHeartbeats 8000000 in
set_option maxRecDepth 100000 in
theorem impl_opposite.calls (k : Nat) (a0_0 : Vector Int 16) (r : Vector Int 16) (w : World) (h : impl_opposite.f k a0_0 = some r) :
    Calls Try.prog 42 #[.agg (⟨Arr.arL .i8 a0_0⟩ : Array Value)] w fun e w' => e = .returned (.agg (⟨Arr.arL .i8 r⟩ : Array Value)) ∧ Below w.heap.size w w' := by
  have hu25 := Try.underlying25
  have HB := Aside0.mk (Below.refl w.heap.size w)
  have H : (impl_opposite.l0 k 0 a0_0) = some r := h
  clear h
  have H' := Aside0.mk H
  clear H
  go_enter Try.func42, Try.ntmps42
  go_wp2_with (first | ((with_reducible refine gate_dst (N := 1) rfl ?_); refine box_event ?hg (N := 1) ?hd (cs := (⟨Arr.arL .i8 a0_0⟩ : Array Value)) (t := 25) ?hr ?_; (case hd => rfl); (case hg => rfl); (case hr => first | (go_simp; done) | (go_simp; rfl)); intro gb210 hg w2 hbox hb; have n0_ := Aside0.mk (below_step (by repeat (first | (with_reducible first | exact HB.out | apply below_alloc | apply pw_below_drewN | apply below_drew1) | exact HB.out)) hb); have n1_ := Aside0.mk (hbox); have n2_ := Aside0.mk ((by rw [hg]; exact (below_size (by repeat (first | (with_reducible first | exact HB.out | apply below_alloc | apply pw_below_drewN | apply below_drew1) | exact HB.out))) : w.heap.size ≤ gb210)); have n3_ := Aside0.mk ((by rw [hg]; exact (below_size (by repeat (first | (with_reducible first | exact HB.out | apply below_alloc | apply pw_below_drewN | apply below_drew1) | exact HB.out))) : w.heap.size ≤ gb210)); clear HB; have HB := n0_; have BK210 := n1_; have GW210 := n2_; have GE210 := n3_; clear n0_ n1_ n2_ n3_; clear hb hbox hg) | ((with_reducible refine gate_dst (N := 2) rfl ?_); refine box_event ?hg (N := 2) ?hd (cs := (⟨Arr.arL .i8 (Vector.replicate 16 0 : Vector Int 16)⟩ : Array Value)) (t := 25) ?hr ?_; (case hd => rfl); (case hg => rfl); (case hr => first | (go_simp; done) | (go_simp; rfl)); intro gb211 hg w3 hbox hb; have n0_ := Aside0.mk (blk_below (g := gb210) (o := .cells (⟨Arr.arL .i8 a0_0⟩ : Array Value) 25 (0, 0)) (by (with_reducible repeat (first | refine blk_drewN ?_ _ | refine blk_drew ?_ | refine blk_alloc ?_ _)); exact BK210.out) hb); have n1_ := Aside0.mk (below_step (by repeat (first | (with_reducible first | exact HB.out | apply below_alloc | apply pw_below_drewN | apply below_drew1 | refine below_set ?_ GE210.out) | exact HB.out)) hb); have n2_ := Aside0.mk (hbox); have n3_ := Aside0.mk ((by rw [hg]; exact (below_size (by repeat (first | (with_reducible first | exact HB.out | apply below_alloc | apply pw_below_drewN | apply below_drew1 | refine below_set ?_ GE210.out) | exact HB.out))) : w.heap.size ≤ gb211)); have n4_ := Aside0.mk ((by rw [hg]; exact (below_size (by repeat (first | (with_reducible first | exact HB.out | apply below_alloc | apply pw_below_drewN | apply below_drew1 | refine below_set ?_ GE210.out) | exact HB.out))) : w.heap.size ≤ gb211)); have n5_ := Aside0.mk ((by rw [hg]; exact Nat.ne_of_lt (blk_lt (g := gb210) (o := .cells (⟨Arr.arL .i8 a0_0⟩ : Array Value) 25 (0, 0)) (by (with_reducible repeat (first | refine blk_drewN ?_ _ | refine blk_drew ?_ | refine blk_alloc ?_ _)); exact BK210.out)) : gb210 ≠ gb211)); have n6_ := Aside0.mk ((by rw [hg]; exact Nat.ne_of_gt (blk_lt (g := gb210) (o := .cells (⟨Arr.arL .i8 a0_0⟩ : Array Value) 25 (0, 0)) (by (with_reducible repeat (first | refine blk_drewN ?_ _ | refine blk_drew ?_ | refine blk_alloc ?_ _)); exact BK210.out)) : gb211 ≠ gb210)); clear BK210; clear HB; have BK210 := n0_; have HB := n1_; have BK211 := n2_; have GW211 := n3_; have GE211 := n4_; have NB210_211 := n5_; have NB211_210 := n6_; clear n0_ n1_ n2_ n3_ n4_ n5_ n6_; clear hb hbox hg))
  go_loopg [4] k (fun kq v4 w' => ∃ (x4_1 : Int) (x211000_1 : Vector Int 16), v4 = .int .i64 x4_1 ∧ Aside0 (impl_opposite.l0 kq x4_1 x211000_1 = some r) ∧ Aside0 (kq ≤ k) ∧ Aside0 (w'.heap[gb210]? = some (.cells (⟨Arr.arL .i8 x211000_1⟩ : Array Value) 25 (0, 0))) ∧ Aside0 (w'.heap[gb211]? = some (.cells (⟨Arr.arL .i8 (Vector.replicate 16 0 : Vector Int 16)⟩ : Array Value) 25 (0, 0))) ∧ Aside0 (Below w.heap.size w w'))
  case atStart => exact ⟨(0), (a0_0), (by first | rfl | (simp; done) | (simp [*]; done)), H', ⟨Nat.le_refl _⟩, ⟨by (with_reducible repeat (first | refine blk_drewN ?_ _ | refine blk_drew ?_ | refine blk_alloc ?_ _)); exact BK210.out⟩, ⟨by (with_reducible repeat (first | refine blk_drewN ?_ _ | refine blk_drew ?_ | refine blk_alloc ?_ _)); exact BK211.out⟩, ⟨by repeat (first | (with_reducible first | exact HB.out | apply below_alloc | apply pw_below_drewN | apply below_drew1 | refine below_set ?_ GE210.out | refine below_set ?_ GE211.out) | exact HB.out)⟩⟩
  case round =>
    clear H'
    try clear p2
    obtain ⟨x4_1, x211000_1, rfl, HA, HK1, BK210, BK211, HB⟩ := hrel
    cases gk with
    | zero => exact absurd HA.out (by simp [impl_opposite.l0])
    | succ k1 =>
      have H := HA.out
      clear HA
      simp only [impl_opposite.l0] at H
      by_cases c4 : x4_1 < 16
      · rw [if_pos c4] at H
        have c4b0 : decide (x4_1 < 16) = true := decide_eq_true c4
        clear c4
        by_cases c5 : 0 ≤ x4_1
        · rw [if_pos c5] at H
          have c5b0 : decide (0 ≤ x4_1) = true := decide_eq_true c5
          clear c5
          obtain ⟨y212, hy212⟩ : ∃ y_ : Vector Int 16, y_ = (Arr.vst x211000_1 x4_1 (IntKind.i8.wrap (-(Arr.vrd x211000_1 x4_1)))) := ⟨_, rfl⟩
          replace H : (impl_opposite.l0 k1 (wrap64 (x4_1 + 1)) y212) = some r := by first | (rw [hy212]; with_reducible exact H) | (have H2_ := (Option.bind_some _ _).symm.trans H; rw [hy212]; with_reducible exact H2_) | (have H2_ := (Option.bind_some _ _).symm.trans H; with_reducible exact H2_) | with_reducible exact H | (rw [hy212]; exact H) | exact H
          have Ny212 := Aside0.mk hy212
          clear hy212
          have H' := Aside0.mk H
          clear H
          have p6 : 0 ≤ (x4_1 : Int) := of_decide_eq_true (by first | (with_reducible assumption) | assumption)
          have q6 : (x4_1 : Int) < 16 := of_decide_eq_true (by first | (with_reducible assumption) | assumption)
          replace p6 := eq_true p6
          replace q6 := eq_true q6
          have hx7 : wr.cell? ⟨gb210, x4_1.toNat, none⟩ = some (.int .i8 (Arr.vrd x211000_1 x4_1)) := Arr.cellN (off := 0) (l := (Arr.arL .i8 x211000_1)) (show wr.heap[gb210]? = some (.cells (⟨Arr.arL .i8 x211000_1⟩ : Array Value) 25 (0, 0)) from by (with_reducible repeat (first | refine blk_drewN ?_ _ | refine blk_drew ?_ | refine blk_alloc ?_ _)); exact BK210.out) rfl (x4_1.toNat) (x4_1.toNat) (by omega) (by have a0_ := of_eq_true p6; have b0_ := of_eq_true q6; omega)
          have hf7 := blk_frozen (show wr.heap[gb210]? = some (.cells (⟨Arr.arL .i8 x211000_1⟩ : Array Value) 25 (0, 0)) from by (with_reducible repeat (first | refine blk_drewN ?_ _ | refine blk_drew ?_ | refine blk_alloc ?_ _)); exact BK210.out) (x4_1.toNat)
          have p8 : 0 ≤ (x4_1 : Int) := of_decide_eq_true (by first | (with_reducible assumption) | assumption)
          have q8 : (x4_1 : Int) < 16 := of_decide_eq_true (by first | (with_reducible assumption) | assumption)
          replace p8 := eq_true p8
          replace q8 := eq_true q8
          go_wp2_with (first | ((with_reducible refine gate_store (t := 22) (p := 12) rfl ?_); have hx9 : wr.cell? ⟨gb210, x4_1.toNat, none⟩ = some (.int .i8 (Arr.vrd x211000_1 x4_1)) := Arr.cellN (off := 0) (l := (Arr.arL .i8 x211000_1)) (show wr.heap[gb210]? = some (.cells (⟨Arr.arL .i8 x211000_1⟩ : Array Value) 25 (0, 0)) from by (with_reducible repeat (first | refine blk_drewN ?_ _ | refine blk_drew ?_ | refine blk_alloc ?_ _)); exact BK210.out) rfl (x4_1.toNat) (x4_1.toNat) (by omega) (by have a0_ := of_eq_true p8; have b0_ := of_eq_true q8; omega); have hf9 := blk_frozen (show wr.heap[gb210]? = some (.cells (⟨Arr.arL .i8 x211000_1⟩ : Array Value) 25 (0, 0)) from by (with_reducible repeat (first | refine blk_drewN ?_ _ | refine blk_drew ?_ | refine blk_alloc ?_ _)); exact BK210.out) (x4_1.toNat); refine Arr.putN ?hg (T := 22) (p := 12) (v := ?vo_w10) ?ho ?hn (g := gb210) (off := 0) (m := x4_1.toNat) (n := x4_1.toNat) (k := .i8) (y := (IntKind.i8.wrap (-(Arr.vrd x211000_1 x4_1)))) (x := x211000_1) (t := 25) (pre := []) (show wr.heap[gb210]? = some (.cells (⟨Arr.arL .i8 x211000_1⟩ : Array Value) 25 (0, 0)) from by (with_reducible repeat (first | refine blk_drewN ?_ _ | refine blk_drew ?_ | refine blk_alloc ?_ _)); exact BK210.out) ?hp (by omega) ?hr ?_; (case ho => rfl); (case hg => rfl); (case hn => rfl); (case hp => rfl); (case hr => first | (go_simp; done) | (go_simp; rfl)); intro w10 hbx hg hbe; replace hbx : w10.heap[gb210]? = some (.cells (⟨Arr.arL .i8 y212⟩ : Array Value) 25 (0, 0)) := (by rw [Ny212.out]; exact hbx); have n0_ := Aside0.mk (hbx); have n1_ := Aside0.mk (blk_grown (g := gb211) (o := .cells (⟨Arr.arL .i8 (Vector.replicate 16 0 : Vector Int 16)⟩ : Array Value) 25 (0, 0)) (by (with_reducible repeat (first | refine blk_drewN ?_ _ | refine blk_drew ?_ | refine blk_alloc ?_ _)); exact BK211.out) hg (fun e_ => NB211_210.out (Option.some.inj e_))); have n2_ := Aside0.mk (hbe _ _ (by repeat (first | (with_reducible first | exact HB.out | apply below_alloc | apply pw_below_drewN | apply below_drew1 | refine below_set ?_ GE210.out | refine below_set ?_ GE211.out) | exact HB.out)) GE210.out); clear BK210; clear BK211; clear HB; have BK210 := n0_; have BK211 := n1_; have HB := n2_; clear n0_ n1_ n2_; (try clear hbx hg hbe)))
          go_roundg k1
          case measure => have := HK1.out; omega
          case rel => exact ⟨(wrap64 (x4_1 + 1)), (y212), (by first | rfl | (simp; done) | (simp [*]; done)), H', ⟨by have := HK1.out; omega⟩, ⟨by (with_reducible repeat (first | refine blk_drewN ?_ _ | refine blk_drew ?_ | refine blk_alloc ?_ _)); exact BK210.out⟩, ⟨by (with_reducible repeat (first | refine blk_drewN ?_ _ | refine blk_drew ?_ | refine blk_alloc ?_ _)); exact BK211.out⟩, ⟨by repeat (first | (with_reducible first | exact HB.out | apply below_alloc | apply pw_below_drewN | apply below_drew1 | refine below_set ?_ GE210.out | refine below_set ?_ GE211.out) | exact HB.out)⟩⟩
        · rw [if_neg c5] at H
          exact absurd H (by simp)
      · rw [if_neg c4] at H
        have c4b0 : decide (x4_1 < 16) = false := decide_eq_false c4
        clear c4
        obtain rfl := Option.some.inj H
        go_wp2_with (first | ((with_reducible refine Arr.gate_load (t := 25) (p := 1) rfl ?_); (try (refine gate_guard (by rfl) ?_; dsimp only)); refine Arr.loadA ?hg (T := 25) (p := 1) ?ho (g := gb210) (off := 0) ?hx (t := 25) (l := (Arr.arL .i8 x211000_1)) (m := (Arr.arL .i8 x211000_1)) (fr := (0, 0)) (show wr.heap[gb210]? = some (.cells (⟨Arr.arL .i8 x211000_1⟩ : Array Value) 25 (0, 0)) from by (with_reducible repeat (first | refine blk_drewN ?_ _ | refine blk_drew ?_ | refine blk_alloc ?_ _)); exact BK210.out) rfl Try.underlying25 rfl (n := 16) (by kernel_rfl) (by simp [Arr.arL_length]) ?_; (case hg => rfl); (case ho => rfl); (case hx => first | (go_simp; done) | rfl | (go_simp; rfl))) | ((with_reducible refine gate_store (t := 25) (p := 2) rfl ?_); refine Arr.storeA ?hg (T := 25) (p := 2) (v := ?vo_w13) ?ho ?hn (g := gb211) (off := 0) ?hx (m := (Arr.arL .i8 x211000_1)) ?hy (t := 25) (pre := []) (old := (Arr.arL .i8 (Vector.replicate 16 0 : Vector Int 16))) (show wr.heap[gb211]? = some (.cells (⟨Arr.arL .i8 (Vector.replicate 16 0 : Vector Int 16)⟩ : Array Value) 25 (0, 0)) from by (with_reducible repeat (first | refine blk_drewN ?_ _ | refine blk_drew ?_ | refine blk_alloc ?_ _)); exact BK211.out) rfl (by simp [Arr.arL_length]) (n := 16) (by kernel_rfl) (by simp [Arr.arL_length]) (Arr.ones_0 ) ?_; (case ho => rfl); (case hg => rfl); (case hn => rfl); (case hx => first | (go_simp; done) | rfl | (go_simp; rfl)); (case hy => first | (go_simp; done) | rfl | (go_simp; rfl)); intro w13 hbx hg hbe; replace hbx : w13.heap[gb211]? = some (.cells (⟨Arr.arL .i8 x211000_1⟩ : Array Value) 25 (0, 0)) := hbx; have n0_ := Aside0.mk (blk_grown (g := gb210) (o := .cells (⟨Arr.arL .i8 x211000_1⟩ : Array Value) 25 (0, 0)) (by (with_reducible repeat (first | refine blk_drewN ?_ _ | refine blk_drew ?_ | refine blk_alloc ?_ _)); exact BK210.out) hg (fun e_ => NB210_211.out (Option.some.inj e_))); have n1_ := Aside0.mk (hbx); have n2_ := Aside0.mk (hbe _ _ (by repeat (first | (with_reducible first | exact HB.out | apply below_alloc | apply pw_below_drewN | apply below_drew1 | refine below_set ?_ GE210.out | refine below_set ?_ GE211.out) | exact HB.out)) GE211.out); clear BK210; clear BK211; clear HB; have BK210 := n0_; have BK211 := n1_; have HB := n2_; clear n0_ n1_ n2_; (try clear hbx hg hbe)))
        refine bodyPost_ret (results_cell_row rfl _ _ gb211 25 (⟨Arr.arL .i8 x211000_1⟩ : Array Value) (0, 0) _ rfl (by (with_reducible repeat (first | refine blk_drewN ?_ _ | refine blk_drew ?_ | refine blk_alloc ?_ _)); exact BK211.out) Try.underlying25 rfl (by rw [show (Try.prog.info? 25).map (·.size) = some 16 from by kernel_rfl]; simp [Arr.arL_length])) rfl ?_
        exact ⟨by first | rfl | (simp [errW_none, errW_some] <;> rfl) | (simp [*, errW_none, errW_some] <;> rfl), by repeat (first | (with_reducible first | exact HB.out | apply below_alloc | apply pw_below_drewN | apply below_drew1 | refine below_set ?_ GE210.out | refine below_set ?_ GE211.out) | exact HB.out)⟩

/-! ### impl_CutStick: function 9 -/
def impl_CutStick.f (k : Nat) (a0 : Int) (a1_0 : Vector Int 16) : Option (Bool × (List (S71)) × Vector Int 16 × Bool × (List (S71)) × Vector Int 16 × Int) := (impl_ValidGrain.f k a1_0).bind fun t216 => (if t216 = true then ((impl_NotchesFor.f k a0).bind fun bt217 => (if bt217.2 = 0 then ((impl_Notch.f bt217.1).bind fun t221 => ((impl_opposite.f k a1_0).bind fun t224 => (some (true, bt217.1, a1_0, false, t221, t224, 0)))) else (some (false, ([] : List (S71)), (Vector.replicate 16 0 : Vector Int 16), false, ([] : List (S71)), (Vector.replicate 16 0 : Vector Int 16), bt217.2)))) else (some (false, ([] : List (S71)), (Vector.replicate 16 0 : Vector Int 16), false, ([] : List (S71)), (Vector.replicate 16 0 : Vector Int 16), 1)))
theorem impl_CutStick.mono : ∀ a0 a1 k, LeO (impl_CutStick.f k a0 a1) (impl_CutStick.f (k + 1) a0 a1) := by
  intro a0 a1 k
  unfold impl_CutStick.f
  repeat' first
      | (with_reducible exact impl_NotchesFor.mono _ _)
      | (with_reducible exact impl_ValidGrain.mono _ _)
      | (with_reducible exact impl_opposite.mono _ _)
      | (with_reducible exact LeO.refl _)
      | (with_reducible exact LeO.none _)
      | (with_reducible refine LeO.ite ?_ ?_)
      | (with_reducible refine LeO.bind ?_ (fun _ => ?_))
      | exact impl_NotchesFor.mono _ _
      | exact impl_ValidGrain.mono _ _
      | exact impl_opposite.mono _ _
      | exact LeO.none _
      | refine LeO.ite ?_ ?_
      | refine LeO.bind ?_ (fun _ => ?_)
def impl_CutStick.T6 : Bool × List (List Nat × List Nat) := (true, [([], []), ([], []), ([0, 1], [0, 1]), ([], []), ([3], [3]), ([], []), ([5, 4], [5]), ([4, 6], [4, 6]), ([2, 6, 0, 1, 2], [2]), ([7, 8, 0, 1, 2, 3, 4, 5, 6, 7, 8], [7]), ([9, 0, 1, 2, 3, 4, 5, 6, 7, 8, 9], [])])
def impl_CutStick.B6 : List Nat := [0, 0, 3, 0, 8, 0, 56, 120, 127, 511, 1023]
theorem impl_CutStick.tab6 : rtab .any (opsOf Try.f9 6) = impl_CutStick.T6 := by kernel_rfl
theorem impl_CutStick.bits6 : waitsOk impl_CutStick.T6.2 impl_CutStick.B6 = true := by kernel_rfl
set_option maxHeartbeats 8000000 in
set_option maxRecDepth 100000 in
theorem impl_CutStick.calls (k : Nat) (a0 : Int) (a1_0 : Vector Int 16) (r1 : Bool) (r2 : List (S71)) (r3 : Vector Int 16) (r4 : Bool) (r5 : List (S71)) (r6 : Vector Int 16) (r7 : Int) (w : World) (h : impl_CutStick.f k a0 a1_0 = some (r1, r2, r3, r4, r5, r6, r7)) :
    Calls Try.prog 9 #[.int .i64 a0, .agg (⟨Arr.arL .i8 a1_0⟩ : Array Value)] w fun e w' => ∃ v1_ v4_ : Value, e = .returned (.tuple #[.agg (⟨(.bool r1) :: (v1_) :: Arr.arL .i8 r3⟩ : Array Value), .agg (⟨(.bool r4) :: (v4_) :: Arr.arL .i8 r6⟩ : Array Value), .int .i64 r7]) ∧ Kd.R k71 71 w' w.heap.size (fun k_ => some k_ ≠ (v4_ : Value).ownBlock) v1_ r2 ∧ Kd.R k71 71 w' w.heap.size (fun k_ => some k_ ≠ (v1_ : Value).ownBlock) v4_ r5 ∧ Below w.heap.size w w' := by
  have hu25 := Try.underlying25
  have hu27 := Try.underlying27
  have HB := Aside0.mk (Below.refl w.heap.size w)
  have H : ((impl_ValidGrain.f k a1_0).bind fun t216 => (if t216 = true then ((impl_NotchesFor.f k a0).bind fun bt217 => (if bt217.2 = 0 then ((impl_Notch.f bt217.1).bind fun t221 => ((impl_opposite.f k a1_0).bind fun t224 => (some (true, bt217.1, a1_0, false, t221, t224, 0)))) else (some (false, ([] : List (S71)), (Vector.replicate 16 0 : Vector Int 16), false, ([] : List (S71)), (Vector.replicate 16 0 : Vector Int 16), bt217.2)))) else (some (false, ([] : List (S71)), (Vector.replicate 16 0 : Vector Int 16), false, ([] : List (S71)), (Vector.replicate 16 0 : Vector Int 16), 1)))) = some (r1, r2, r3, r4, r5, r6, r7) := h
  clear h
  replace H := Option.bind_eq_some_iff.mp H
  obtain ⟨t216, A40, H⟩ := H
  replace H : (if t216 = true then ((impl_NotchesFor.f k a0).bind fun bt217 => (if bt217.2 = 0 then ((impl_Notch.f bt217.1).bind fun t221 => ((impl_opposite.f k a1_0).bind fun t224 => (some (true, bt217.1, a1_0, false, t221, t224, 0)))) else (some (false, ([] : List (S71)), (Vector.replicate 16 0 : Vector Int 16), false, ([] : List (S71)), (Vector.replicate 16 0 : Vector Int 16), bt217.2)))) else (some (false, ([] : List (S71)), (Vector.replicate 16 0 : Vector Int 16), false, ([] : List (S71)), (Vector.replicate 16 0 : Vector Int 16), 1))) = some (r1, r2, r3, r4, r5, r6, r7) := H
  have A4 := Aside0.mk A40
  clear A40
  by_cases c5 : t216 = true
  · subst c5
    have H1 : ((impl_NotchesFor.f k a0).bind fun bt217 => (if bt217.2 = 0 then ((impl_Notch.f bt217.1).bind fun t221 => ((impl_opposite.f k a1_0).bind fun t224 => (some (true, bt217.1, a1_0, false, t221, t224, 0)))) else (some (false, ([] : List (S71)), (Vector.replicate 16 0 : Vector Int 16), false, ([] : List (S71)), (Vector.replicate 16 0 : Vector Int 16), bt217.2)))) = some (r1, r2, r3, r4, r5, r6, r7) := by rw [if_pos rfl] at H; exact H
    clear H
    have H := H1
    clear H1
    replace H := Option.bind_eq_some_iff.mp H
    obtain ⟨⟨t217, t218⟩, A60, H⟩ := H
    replace H : (if t218 = 0 then ((impl_Notch.f t217).bind fun t221 => ((impl_opposite.f k a1_0).bind fun t224 => (some (true, t217, a1_0, false, t221, t224, 0)))) else (some (false, ([] : List (S71)), (Vector.replicate 16 0 : Vector Int 16), false, ([] : List (S71)), (Vector.replicate 16 0 : Vector Int 16), t218))) = some (r1, r2, r3, r4, r5, r6, r7) := H
    have A6 := Aside0.mk A60
    clear A60
    by_cases c7 : t218 = 0
    · rw [if_pos c7] at H
      have c7b0 : (t218 == 0) = true := beq_iff_eq.mpr c7
      have c7b1 : (t218 != 0) = false := bne_eq_false_iff_eq.mpr c7
      clear c7
      replace H := Option.bind_eq_some_iff.mp H
      obtain ⟨t221, A100, H⟩ := H
      replace H : ((impl_opposite.f k a1_0).bind fun t224 => (some (true, t217, a1_0, false, t221, t224, 0))) = some (r1, r2, r3, r4, r5, r6, r7) := H
      have A10 := Aside0.mk A100
      clear A100
      replace H := Option.bind_eq_some_iff.mp H
      obtain ⟨t224, A120, H⟩ := H
      replace H : (some (true, t217, a1_0, false, t221, t224, 0)) = some (r1, r2, r3, r4, r5, r6, r7) := H
      have A12 := Aside0.mk A120
      clear A120
      simp only [Option.some.injEq, Prod.mk.injEq] at H
      obtain ⟨rfl, rfl, rfl, rfl, rfl, rfl, rfl⟩ := H
      go_enter Try.func9, Try.ntmps9
      try go_wp2_with (first | ((with_reducible refine gate_dst (N := 3) rfl ?_); refine box_event ?hg (N := 3) ?hd (cs := (⟨Arr.arL .i8 a1_0⟩ : Array Value)) (t := 25) ?hr ?_; (case hd => rfl); (case hg => rfl); (case hr => first | (go_simp; done) | (go_simp; rfl)); intro gb213 hg w16 hbox hb; have n0_ := Aside0.mk (below_step (by repeat (first | (with_reducible first | exact HB.out | apply below_alloc | apply pw_below_drewN | apply below_drew1) | exact HB.out)) hb); have n1_ := Aside0.mk (hbox); have n2_ := Aside0.mk ((by rw [hg]; exact (below_size (by repeat (first | (with_reducible first | exact HB.out | apply below_alloc | apply pw_below_drewN | apply below_drew1) | exact HB.out))) : w.heap.size ≤ gb213)); have n3_ := Aside0.mk ((by rw [hg]; exact (below_size (by repeat (first | (with_reducible first | exact HB.out | apply below_alloc | apply pw_below_drewN | apply below_drew1) | exact HB.out))) : w.heap.size ≤ gb213)); clear HB; have HB := n0_; have BK213 := n1_; have GW213 := n2_; have GE213 := n3_; clear n0_ n1_ n2_ n3_; clear hb hbox hg) | ((with_reducible refine gate_dst (N := 4) rfl ?_); refine box_event ?hg (N := 4) ?hd (cs := (⟨(.bool false) :: (.slice none 0 0) :: Arr.arL .i8 (Vector.replicate 16 0 : Vector Int 16)⟩ : Array Value)) (t := 27) ?hr ?_; (case hd => rfl); (case hg => rfl); (case hr => first | (go_simp; done) | (go_simp; rfl)); intro gb214 hg w17 hbox hb; have n0_ := Aside0.mk (blk_below (g := gb213) (o := .cells (⟨Arr.arL .i8 a1_0⟩ : Array Value) 25 (0, 0)) (by (with_reducible repeat (first | refine blk_drewN ?_ _ | refine blk_drew ?_ | refine blk_alloc ?_ _)); exact BK213.out) hb); have n1_ := Aside0.mk (below_step (by repeat (first | (with_reducible first | exact HB.out | apply below_alloc | apply pw_below_drewN | apply below_drew1 | refine below_set ?_ GE213.out) | exact HB.out)) hb); have n2_ := Aside0.mk (hbox); have n3_ := Aside0.mk ((by rw [hg]; exact (below_size (by repeat (first | (with_reducible first | exact HB.out | apply below_alloc | apply pw_below_drewN | apply below_drew1 | refine below_set ?_ GE213.out) | exact HB.out))) : w.heap.size ≤ gb214)); have n4_ := Aside0.mk ((by rw [hg]; exact (below_size (by repeat (first | (with_reducible first | exact HB.out | apply below_alloc | apply pw_below_drewN | apply below_drew1 | refine below_set ?_ GE213.out) | exact HB.out))) : w.heap.size ≤ gb214)); have n5_ := Aside0.mk ((by rw [hg]; exact Nat.ne_of_lt (blk_lt (g := gb213) (o := .cells (⟨Arr.arL .i8 a1_0⟩ : Array Value) 25 (0, 0)) (by (with_reducible repeat (first | refine blk_drewN ?_ _ | refine blk_drew ?_ | refine blk_alloc ?_ _)); exact BK213.out)) : gb213 ≠ gb214)); have n6_ := Aside0.mk ((by rw [hg]; exact Nat.ne_of_gt (blk_lt (g := gb213) (o := .cells (⟨Arr.arL .i8 a1_0⟩ : Array Value) 25 (0, 0)) (by (with_reducible repeat (first | refine blk_drewN ?_ _ | refine blk_drew ?_ | refine blk_alloc ?_ _)); exact BK213.out)) : gb214 ≠ gb213)); clear BK213; clear HB; have BK213 := n0_; have HB := n1_; have BK214 := n2_; have GW214 := n3_; have GE214 := n4_; have NB213_214 := n5_; have NB214_213 := n6_; clear n0_ n1_ n2_ n3_ n4_ n5_ n6_; clear hb hbox hg) | ((with_reducible refine gate_dst (N := 5) rfl ?_); refine box_event ?hg (N := 5) ?hd (cs := (⟨(.bool false) :: (.slice none 0 0) :: Arr.arL .i8 (Vector.replicate 16 0 : Vector Int 16)⟩ : Array Value)) (t := 27) ?hr ?_; (case hd => rfl); (case hg => rfl); (case hr => first | (go_simp; done) | (go_simp; rfl)); intro gb215 hg w18 hbox hb; have n0_ := Aside0.mk (blk_below (g := gb213) (o := .cells (⟨Arr.arL .i8 a1_0⟩ : Array Value) 25 (0, 0)) (by (with_reducible repeat (first | refine blk_drewN ?_ _ | refine blk_drew ?_ | refine blk_alloc ?_ _)); exact BK213.out) hb); have n1_ := Aside0.mk (blk_below (g := gb214) (o := .cells (⟨(.bool false) :: (.slice none 0 0) :: Arr.arL .i8 (Vector.replicate 16 0 : Vector Int 16)⟩ : Array Value) 27 (0, 0)) (by (with_reducible repeat (first | refine blk_drewN ?_ _ | refine blk_drew ?_ | refine blk_alloc ?_ _)); exact BK214.out) hb); have n2_ := Aside0.mk (below_step (by repeat (first | (with_reducible first | exact HB.out | apply below_alloc | apply pw_below_drewN | apply below_drew1 | refine below_set ?_ GE213.out | refine below_set ?_ GE214.out) | exact HB.out)) hb); have n3_ := Aside0.mk (hbox); have n4_ := Aside0.mk ((by rw [hg]; exact (below_size (by repeat (first | (with_reducible first | exact HB.out | apply below_alloc | apply pw_below_drewN | apply below_drew1 | refine below_set ?_ GE213.out | refine below_set ?_ GE214.out) | exact HB.out))) : w.heap.size ≤ gb215)); have n5_ := Aside0.mk ((by rw [hg]; exact (below_size (by repeat (first | (with_reducible first | exact HB.out | apply below_alloc | apply pw_below_drewN | apply below_drew1 | refine below_set ?_ GE213.out | refine below_set ?_ GE214.out) | exact HB.out))) : w.heap.size ≤ gb215)); have n6_ := Aside0.mk ((by rw [hg]; exact Nat.ne_of_lt (blk_lt (g := gb213) (o := .cells (⟨Arr.arL .i8 a1_0⟩ : Array Value) 25 (0, 0)) (by (with_reducible repeat (first | refine blk_drewN ?_ _ | refine blk_drew ?_ | refine blk_alloc ?_ _)); exact BK213.out)) : gb213 ≠ gb215)); have n7_ := Aside0.mk ((by rw [hg]; exact Nat.ne_of_gt (blk_lt (g := gb213) (o := .cells (⟨Arr.arL .i8 a1_0⟩ : Array Value) 25 (0, 0)) (by (with_reducible repeat (first | refine blk_drewN ?_ _ | refine blk_drew ?_ | refine blk_alloc ?_ _)); exact BK213.out)) : gb215 ≠ gb213)); have n8_ := Aside0.mk ((by rw [hg]; exact Nat.ne_of_lt (blk_lt (g := gb214) (o := .cells (⟨(.bool false) :: (.slice none 0 0) :: Arr.arL .i8 (Vector.replicate 16 0 : Vector Int 16)⟩ : Array Value) 27 (0, 0)) (by (with_reducible repeat (first | refine blk_drewN ?_ _ | refine blk_drew ?_ | refine blk_alloc ?_ _)); exact BK214.out)) : gb214 ≠ gb215)); have n9_ := Aside0.mk ((by rw [hg]; exact Nat.ne_of_gt (blk_lt (g := gb214) (o := .cells (⟨(.bool false) :: (.slice none 0 0) :: Arr.arL .i8 (Vector.replicate 16 0 : Vector Int 16)⟩ : Array Value) 27 (0, 0)) (by (with_reducible repeat (first | refine blk_drewN ?_ _ | refine blk_drew ?_ | refine blk_alloc ?_ _)); exact BK214.out)) : gb215 ≠ gb214)); clear BK213; clear BK214; clear HB; have BK213 := n0_; have BK214 := n1_; have HB := n2_; have BK215 := n3_; have GW215 := n4_; have GE215 := n5_; have NB213_215 := n6_; have NB215_213 := n7_; have NB214_215 := n8_; have NB215_214 := n9_; clear n0_ n1_ n2_ n3_ n4_ n5_ n6_ n7_ n8_ n9_; clear hb hbox hg) | ((with_reducible refine Arr.gate_load (t := 25) (p := 3) rfl ?_); (try (refine gate_guard (by rfl) ?_; dsimp only)); refine Arr.loadA ?hg (T := 25) (p := 3) ?ho (g := gb213) (off := 0) ?hx (t := 25) (l := (Arr.arL .i8 a1_0)) (m := (Arr.arL .i8 a1_0)) (fr := (0, 0)) (show w18.heap[gb213]? = some (.cells (⟨Arr.arL .i8 a1_0⟩ : Array Value) 25 (0, 0)) from by (with_reducible repeat (first | refine blk_drewN ?_ _ | refine blk_drew ?_ | refine blk_alloc ?_ _)); exact BK213.out) rfl Try.underlying25 rfl (n := 16) (by kernel_rfl) (by simp [Arr.arL_length]) ?_; (case hg => rfl); (case ho => rfl); (case hx => first | (go_simp; done) | rfl | (go_simp; rfl))) | ((with_reducible refine gate_callee (f := 39) rfl ?_); refine goesL_ (some 10) rfl rfl Try.func39 (by kernel_rfl) rfl #[.agg (⟨Arr.arL .i8 a1_0⟩ : Array Value)] rfl (by (try simp only [List.map_toArray, List.map_cons, List.map_nil]); first | done | (go_simp; done) | rfl | (simp only [List.length_drop, List.length_take]; rfl)) ?_; (with_reducible refine (impl_ValidGrain.calls k a1_0 true _ A4.out).mono ?_); rintro e w19 ⟨rfl, hb⟩; refine ⟨_, rfl, ?_⟩; have n0_ := Aside0.mk (blk_below (g := gb213) (o := .cells (⟨Arr.arL .i8 a1_0⟩ : Array Value) 25 (0, 0)) (by (with_reducible repeat (first | refine blk_drewN ?_ _ | refine blk_drew ?_ | refine blk_alloc ?_ _)); exact BK213.out) hb); have n1_ := Aside0.mk (blk_below (g := gb214) (o := .cells (⟨(.bool false) :: (.slice none 0 0) :: Arr.arL .i8 (Vector.replicate 16 0 : Vector Int 16)⟩ : Array Value) 27 (0, 0)) (by (with_reducible repeat (first | refine blk_drewN ?_ _ | refine blk_drew ?_ | refine blk_alloc ?_ _)); exact BK214.out) hb); have n2_ := Aside0.mk (blk_below (g := gb215) (o := .cells (⟨(.bool false) :: (.slice none 0 0) :: Arr.arL .i8 (Vector.replicate 16 0 : Vector Int 16)⟩ : Array Value) 27 (0, 0)) (by (with_reducible repeat (first | refine blk_drewN ?_ _ | refine blk_drew ?_ | refine blk_alloc ?_ _)); exact BK215.out) hb); have n3_ := Aside0.mk (below_step (by repeat (first | (with_reducible first | exact HB.out | apply below_alloc | apply pw_below_drewN | apply below_drew1 | refine below_set ?_ GE213.out | refine below_set ?_ GE214.out | refine below_set ?_ GE215.out) | exact HB.out)) hb); clear BK213; clear BK214; clear BK215; clear HB; have BK213 := n0_; have BK214 := n1_; have BK215 := n2_; have HB := n3_; clear n0_ n1_ n2_ n3_; (try clear hb); (try clear hb2); (try clear hk); (try clear hi)) | ((with_reducible refine gate_callee (f := 40) rfl ?_); refine goesL_ (some 16) rfl rfl Try.func40 (by kernel_rfl) rfl #[.int .i64 a0] rfl (by (try simp only [List.map_toArray, List.map_cons, List.map_nil]); first | done | (go_simp; done) | rfl | (simp only [List.length_drop, List.length_take]; rfl)) ?_; (with_reducible refine (impl_NotchesFor.calls k a0 t217 t218 _ A6.out).mono ?_); rintro e w20 ⟨v219, rfl, ho0, hb⟩; refine ⟨_, rfl, ?_⟩; have n0_ := Aside0.mk (Kd.R_lower ho0 (below_size (by repeat (first | (with_reducible first | exact HB.out | apply below_alloc | apply pw_below_drewN | apply below_drew1 | refine below_set ?_ GE213.out | refine below_set ?_ GE214.out | refine below_set ?_ GE215.out) | exact HB.out)))); have n1_ := Aside0.mk (blk_below (g := gb213) (o := .cells (⟨Arr.arL .i8 a1_0⟩ : Array Value) 25 (0, 0)) (by (with_reducible repeat (first | refine blk_drewN ?_ _ | refine blk_drew ?_ | refine blk_alloc ?_ _)); exact BK213.out) hb); have n2_ := Aside0.mk (blk_below (g := gb214) (o := .cells (⟨(.bool false) :: (.slice none 0 0) :: Arr.arL .i8 (Vector.replicate 16 0 : Vector Int 16)⟩ : Array Value) 27 (0, 0)) (by (with_reducible repeat (first | refine blk_drewN ?_ _ | refine blk_drew ?_ | refine blk_alloc ?_ _)); exact BK214.out) hb); have n3_ := Aside0.mk (blk_below (g := gb215) (o := .cells (⟨(.bool false) :: (.slice none 0 0) :: Arr.arL .i8 (Vector.replicate 16 0 : Vector Int 16)⟩ : Array Value) 27 (0, 0)) (by (with_reducible repeat (first | refine blk_drewN ?_ _ | refine blk_drew ?_ | refine blk_alloc ?_ _)); exact BK215.out) hb); have n4_ := Aside0.mk (below_step (by repeat (first | (with_reducible first | exact HB.out | apply below_alloc | apply pw_below_drewN | apply below_drew1 | refine below_set ?_ GE213.out | refine below_set ?_ GE214.out | refine below_set ?_ GE215.out) | exact HB.out)) hb); clear BK213; clear BK214; clear BK215; clear HB; have HO220 := n0_; have BK213 := n1_; have BK214 := n2_; have BK215 := n3_; have HB := n4_; clear n0_ n1_ n2_ n3_ n4_; (try clear hb); (try clear hb2); (try clear hk); (try clear hi); (try clear ho0)))
      have n0_ := Aside0.mk (Kd.R_drew HO220.out)
      have n1_ := Aside0.mk (blk_drew BK213.out)
      have n2_ := Aside0.mk (blk_drew BK214.out)
      have n3_ := Aside0.mk (blk_drew BK215.out)
      have n4_ := Aside0.mk (below_drew1 HB.out)
      clear HO220
      clear BK213
      clear BK214
      clear BK215
      clear HB
      have HO220 := n0_
      have BK213 := n1_
      have BK214 := n2_
      have BK215 := n3_
      have HB := n4_
      clear n0_ n1_ n2_ n3_ n4_
      obtain ⟨Ao22, co22, eo22⟩ := Kd.R_slice HO220.out
      (first | subst eo22 | (injection eo22 with f1_ f2_ f3_; have f4_ := f1_.symm; have f5_ := f3_.symm; clear f1_ f2_ f3_; subst f4_; subst f5_))
      have hl9 : (Arr.arL .i8 a1_0).length = 16 := Arr.arL_length _ _
      have hb9 : List.foldl (fun (cs : Array Value) (x : Value × Nat) => cs.setIfInBounds (2 + x.snd) x.fst) (#[.bool true, .slice Ao22 t217.length co22, .int .i8 0, .int .i8 0, .int .i8 0, .int .i8 0, .int .i8 0, .int .i8 0, .int .i8 0, .int .i8 0, .int .i8 0, .int .i8 0, .int .i8 0, .int .i8 0, .int .i8 0, .int .i8 0, .int .i8 0, .int .i8 0] : Array Value) (Arr.arL .i8 a1_0).zipIdx = (⟨(.bool true) :: (.slice Ao22 t217.length co22) :: Arr.arL .i8 a1_0⟩ : Array Value) := Arr2.fold_set .i8 a1_0 [.bool true, .slice Ao22 t217.length co22] [.int .i8 0, .int .i8 0, .int .i8 0, .int .i8 0, .int .i8 0, .int .i8 0, .int .i8 0, .int .i8 0, .int .i8 0, .int .i8 0, .int .i8 0, .int .i8 0, .int .i8 0, .int .i8 0, .int .i8 0, .int .i8 0] 2 rfl rfl
      refine start_ (n := 11) (S := fun w' => w'.heap[gb213]? = some (.cells (⟨Arr.arL .i8 a1_0⟩ : Array Value) 25 (0, 0))) (ds := [8, 9]) #[false, false, false, false, false, false, false, false, false, false, false] (by kernel_rfl) rfl rfl (BK213.out) (fun hHeld => ?_); refine with_tabW impl_CutStick.tab6 impl_CutStick.bits6 (fun HT_ HW_ => ?_)
      generalize w20.drew = w21 at HO220 BK213 BK214 BK215 HB hHeld ⊢
      refine pure_ (i := 0) (N := some 24) (v := ?_) (a' := ?_) #[true, false, false, false, false, false, false, false, false, false, false] rfl rfl (any_of HT_.out (by kernel_rfl)) (fun _ _ _ h => h) (Or.inl ⟨by rfl, ?_⟩) ?_ ?_
      rotate_left
      · intro w'
        go_simp
        with_reducible rfl
      rotate_left
      · simp only [Act.put, List.setIfInBounds_toArray, List.set_cons_zero, List.set_cons_succ, i64_w, i32_w]
        rfl
      refine pure_ (i := 3) (N := some 27) (v := ?_) (a' := ?_) #[true, false, false, true, false, false, false, false, false, false, false] rfl rfl (any_of HT_.out (by kernel_rfl)) (fun _ _ _ h => h) (Or.inl ⟨by rfl, ?_⟩) ?_ ?_
      rotate_left
      · intro w'
        go_simp
        with_reducible rfl
      rotate_left
      · simp only [Act.put, List.setIfInBounds_toArray, List.set_cons_zero, List.set_cons_succ, i64_w, i32_w]
        rfl
      refine take_ (i := 1) (N := some 25) (v := ?_) (a' := ?_) #[true, true, false, true, false, false, false, false, false, false, false] rfl rfl (take_ofW HT_.out HW_.out (by kernel_rfl)) (fun _ _ _ h => h) (Or.inl ⟨by rfl, ?_⟩) hHeld ?_ ?_
      rotate_left
      · intro w' s0
        refine Arr.exec_load (T := 25) (p := 3) (g := gb213) (off := 0) (t := 25) (l := (Arr.arL .i8 a1_0)) (m := (Arr.arL .i8 a1_0)) (fr := (0, 0)) (n := 16) ?_ ?_ s0 ?_ Try.underlying25 ?_ ?_ ?_
        · rfl
        · first | (go_simp; done) | rfl | (go_simp; rfl)
        · rfl
        · rfl
        · kernel_rfl
        · simp [Arr.arL_length]
      rotate_left
      · simp only [Act.put, List.setIfInBounds_toArray, List.set_cons_zero, List.set_cons_succ, i64_w, i32_w]
        rfl
      refine pure_ (i := 2) (N := some 26) (v := ?_) (a' := ?_) #[true, true, true, true, false, false, false, false, false, false, false] rfl rfl (any_of HT_.out (by kernel_rfl)) (fun _ _ _ h => h) (Or.inl ⟨by rfl, ?_⟩) ?_ ?_
      rotate_left
      · intro w'
        go_simp
        with_reducible rfl
      rotate_left
      · simp only [Act.put, List.setIfInBounds_toArray, List.set_cons_zero, List.set_cons_succ, i64_w, i32_w]
        rfl
      refine take_ (i := 5) (N := some 29) (v := ?_) (a' := ?_) #[true, true, true, true, false, true, false, false, false, false, false] rfl rfl (take_ofW HT_.out HW_.out (by kernel_rfl)) (fun _ _ _ h => h) (Or.inl ⟨by rfl, ?_⟩) hHeld ?_ ?_
      rotate_left
      · intro w' s0
        refine Arr.exec_load (T := 25) (p := 3) (g := gb213) (off := 0) (t := 25) (l := (Arr.arL .i8 a1_0)) (m := (Arr.arL .i8 a1_0)) (fr := (0, 0)) (n := 16) ?_ ?_ s0 ?_ Try.underlying25 ?_ ?_ ?_
        · rfl
        · first | (go_simp; done) | rfl | (go_simp; rfl)
        · rfl
        · rfl
        · kernel_rfl
        · simp [Arr.arL_length]
      rotate_left
      · simp only [Act.put, List.setIfInBounds_toArray, List.set_cons_zero, List.set_cons_succ, i64_w, i32_w]
        rfl
      refine one_ (i := 4) (N := some 28) #[true, true, true, true, true, true, false, false, false, false, false] rfl rfl (one_of HT_.out (by kernel_rfl)) (by decide) (fun K hK => ?_)
      refine goes_ Try.func41 (by kernel_rfl) rfl #[.slice Ao22 t217.length co22] (by rfl) rfl rfl (by (try simp only [List.map_toArray, List.map_cons, List.map_nil]); first | done | (go_simp; done) | rfl | (simp only [List.length_drop, List.length_take]; rfl)) ?_
      with_reducible refine (impl_Notch.calls _ _ t217 t221 _ ?side1 ?side2 A10.out).mono ?_
      (case side1 => repeat (first | exact (Kd.R_reads' HO220.out).2.2 | (with_reducible refine Kd.C_alloc ?_ _) | (with_reducible refine Kd.C_drewN ?_ _) | (with_reducible refine Kd.C_drew ?_)))
      (case side2 => exact (Kd.R_reads' HO220.out).2.1)
      rintro e w23 ⟨v222, rfl, ho0, hb⟩
      refine ⟨_, rfl, ?_⟩
      have n0_ := Aside0.mk (Kd.R_elder' (by (with_reducible repeat (first | apply Kd.R_alloc | apply Kd.R_drewN | apply Kd.R_drew)); exact HO220.out) (Kd.R_base ho0) hb)
      have n1_ := Aside0.mk (Kd.R_lower (Kd.R_new' ho0 (Kd.R_lt (by (with_reducible repeat (first | apply Kd.R_alloc | apply Kd.R_drewN | apply Kd.R_drew)); exact HO220.out))) (below_size (by repeat (first | (with_reducible first | exact HB.out | apply below_alloc | apply pw_below_drewN | apply below_drew1 | refine below_set ?_ GE213.out | refine below_set ?_ GE214.out | refine below_set ?_ GE215.out) | exact HB.out))))
      have n2_ := Aside0.mk (blk_below (g := gb213) (o := .cells (⟨Arr.arL .i8 a1_0⟩ : Array Value) 25 (0, 0)) (by (with_reducible repeat (first | refine blk_drewN ?_ _ | refine blk_drew ?_ | refine blk_alloc ?_ _)); exact BK213.out) hb)
      have n3_ := Aside0.mk (blk_below (g := gb214) (o := .cells (⟨(.bool false) :: (.slice none 0 0) :: Arr.arL .i8 (Vector.replicate 16 0 : Vector Int 16)⟩ : Array Value) 27 (0, 0)) (by (with_reducible repeat (first | refine blk_drewN ?_ _ | refine blk_drew ?_ | refine blk_alloc ?_ _)); exact BK214.out) hb)
      have n4_ := Aside0.mk (blk_below (g := gb215) (o := .cells (⟨(.bool false) :: (.slice none 0 0) :: Arr.arL .i8 (Vector.replicate 16 0 : Vector Int 16)⟩ : Array Value) 27 (0, 0)) (by (with_reducible repeat (first | refine blk_drewN ?_ _ | refine blk_drew ?_ | refine blk_alloc ?_ _)); exact BK215.out) hb)
      have n5_ := Aside0.mk (below_step (by repeat (first | (with_reducible first | exact HB.out | apply below_alloc | apply pw_below_drewN | apply below_drew1 | refine below_set ?_ GE213.out | refine below_set ?_ GE214.out | refine below_set ?_ GE215.out) | exact HB.out)) hb)
      clear HO220
      clear BK213
      clear BK214
      clear BK215
      clear HB
      have HO220 := n0_
      have HO223 := n1_
      have BK213 := n2_
      have BK214 := n3_
      have BK215 := n4_
      have HB := n5_
      clear n0_ n1_ n2_ n3_ n4_ n5_
      (try clear hb)
      (try clear hb2)
      (try clear hk)
      (try clear hi)
      (try clear ho0)
      refine hK.out _ _ (BK213.out) (fun hHeld => ?_)
      clear hK K
      refine norm_ (a' := ?_) ?_ ?_
      rotate_left
      · show Act.put _ (some 28) _ = _
        simp only [Act.put, List.setIfInBounds_toArray, List.set_cons_zero, List.set_cons_succ, i64_w, i32_w]
        rfl
      refine one_ (i := 6) (N := some 30) #[true, true, true, true, true, true, true, false, false, false, false] rfl rfl (one_of HT_.out (by kernel_rfl)) (by decide) (fun K hK => ?_)
      refine goes_ Try.func42 (by kernel_rfl) rfl #[.agg (⟨Arr.arL .i8 a1_0⟩ : Array Value)] (by rfl) rfl rfl (by (try simp only [List.map_toArray, List.map_cons, List.map_nil]); first | done | (go_simp; done) | rfl | (simp only [List.length_drop, List.length_take]; rfl)) ?_
      with_reducible refine (impl_opposite.calls k a1_0 t224 _ A12.out).mono ?_
      rintro e w24 ⟨rfl, hb⟩
      refine ⟨_, rfl, ?_⟩
      have n0_ := Aside0.mk (Kd.R_below (by (with_reducible repeat (first | apply Kd.R_alloc | apply Kd.R_drewN | apply Kd.R_drew)); exact HO220.out) hb)
      have n1_ := Aside0.mk (Kd.R_below (by (with_reducible repeat (first | apply Kd.R_alloc | apply Kd.R_drewN | apply Kd.R_drew)); exact HO223.out) hb)
      have n2_ := Aside0.mk (blk_below (g := gb213) (o := .cells (⟨Arr.arL .i8 a1_0⟩ : Array Value) 25 (0, 0)) (by (with_reducible repeat (first | refine blk_drewN ?_ _ | refine blk_drew ?_ | refine blk_alloc ?_ _)); exact BK213.out) hb)
      have n3_ := Aside0.mk (blk_below (g := gb214) (o := .cells (⟨(.bool false) :: (.slice none 0 0) :: Arr.arL .i8 (Vector.replicate 16 0 : Vector Int 16)⟩ : Array Value) 27 (0, 0)) (by (with_reducible repeat (first | refine blk_drewN ?_ _ | refine blk_drew ?_ | refine blk_alloc ?_ _)); exact BK214.out) hb)
      have n4_ := Aside0.mk (blk_below (g := gb215) (o := .cells (⟨(.bool false) :: (.slice none 0 0) :: Arr.arL .i8 (Vector.replicate 16 0 : Vector Int 16)⟩ : Array Value) 27 (0, 0)) (by (with_reducible repeat (first | refine blk_drewN ?_ _ | refine blk_drew ?_ | refine blk_alloc ?_ _)); exact BK215.out) hb)
      have n5_ := Aside0.mk (below_step (by repeat (first | (with_reducible first | exact HB.out | apply below_alloc | apply pw_below_drewN | apply below_drew1 | refine below_set ?_ GE213.out | refine below_set ?_ GE214.out | refine below_set ?_ GE215.out) | exact HB.out)) hb)
      clear HO220
      clear HO223
      clear BK213
      clear BK214
      clear BK215
      clear HB
      have HO220 := n0_
      have HO223 := n1_
      have BK213 := n2_
      have BK214 := n3_
      have BK215 := n4_
      have HB := n5_
      clear n0_ n1_ n2_ n3_ n4_ n5_
      (try clear hb)
      (try clear hb2)
      (try clear hk)
      (try clear hi)
      obtain ⟨Ao25, co25, eo25⟩ := Kd.R_slice HO223.out
      (first | subst eo25 | (injection eo25 with f1_ f2_ f3_; have f4_ := f1_.symm; have f5_ := f3_.symm; clear f1_ f2_ f3_; subst f4_; subst f5_))
      have hl13 : (Arr.arL .i8 t224).length = 16 := Arr.arL_length _ _
      have hb13 : List.foldl (fun (cs : Array Value) (x : Value × Nat) => cs.setIfInBounds (2 + x.snd) x.fst) (#[.bool false, .slice Ao25 t221.length co25, .int .i8 0, .int .i8 0, .int .i8 0, .int .i8 0, .int .i8 0, .int .i8 0, .int .i8 0, .int .i8 0, .int .i8 0, .int .i8 0, .int .i8 0, .int .i8 0, .int .i8 0, .int .i8 0, .int .i8 0, .int .i8 0] : Array Value) (Arr.arL .i8 t224).zipIdx = (⟨(.bool false) :: (.slice Ao25 t221.length co25) :: Arr.arL .i8 t224⟩ : Array Value) := Arr2.fold_set .i8 t224 [.bool false, .slice Ao25 t221.length co25] [.int .i8 0, .int .i8 0, .int .i8 0, .int .i8 0, .int .i8 0, .int .i8 0, .int .i8 0, .int .i8 0, .int .i8 0, .int .i8 0, .int .i8 0, .int .i8 0, .int .i8 0, .int .i8 0, .int .i8 0, .int .i8 0] 2 rfl rfl
      refine hK.out _ _ (BK213.out) (fun hHeld => ?_)
      clear hK K
      refine norm_ (a' := ?_) ?_ ?_
      rotate_left
      · show Act.put _ (some 30) _ = _
        simp only [Act.put, List.setIfInBounds_toArray, List.set_cons_zero, List.set_cons_succ, i64_w, i32_w]
        rfl
      refine pure_ (i := 7) (N := some 31) (v := ?_) (a' := ?_) #[true, true, true, true, true, true, true, true, false, false, false] rfl rfl (any_of HT_.out (by kernel_rfl)) (fun _ _ _ h => h) (Or.inl ⟨by rfl, ?_⟩) ?_ ?_
      rotate_left
      · intro w'
        go_simp
        with_reducible rfl
      rotate_left
      · simp only [Act.put, List.setIfInBounds_toArray, List.set_cons_zero, List.set_cons_succ, i64_w, i32_w]
        rfl
      refine last_ (i := 8) (N := none) #[true, true, true, true, true, true, true, true, true, false, false] rfl rfl (one_of HT_.out (by kernel_rfl)) (by decide) (fun K hK => ?_)
      obtain ⟨w26, hw_, hbx, hg, hbe⟩ := Arr2.stored_row (g := gb214) (off := 0) (t := 27) (pre := []) (old := ((.bool false) :: (.slice none 0 0) :: Arr.arL .i8 (Vector.replicate 16 0 : Vector Int 16))) (m := ((.bool true) :: (.slice Ao22 t217.length co22) :: Arr.arL .i8 a1_0)) (show w24.heap[gb214]? = some (.cells (⟨(.bool false) :: (.slice none 0 0) :: Arr.arL .i8 (Vector.replicate 16 0 : Vector Int 16)⟩ : Array Value) 27 (0, 0)) from by (with_reducible repeat (first | refine blk_drewN ?_ _ | refine blk_drew ?_ | refine blk_alloc ?_ _)); exact BK214.out) rfl (by simp [Arr.arL_length])
      refine skip_ (w1 := w26) (by rfl) rfl ?_ ?_
      · rw [← hw_]
        exact Arr2.exec_store (T := 27) (p := 4) rfl (by first | (go_simp; done) | rfl | (go_simp; rfl)) (by first | (go_simp; done) | rfl | (go_simp; rfl)) (t := 27) (pre := []) (old := ((.bool false) :: (.slice none 0 0) :: Arr.arL .i8 (Vector.replicate 16 0 : Vector Int 16))) (show w24.heap[gb214]? = some (.cells (⟨(.bool false) :: (.slice none 0 0) :: Arr.arL .i8 (Vector.replicate 16 0 : Vector Int 16)⟩ : Array Value) 27 (0, 0)) from by (with_reducible repeat (first | refine blk_drewN ?_ _ | refine blk_drew ?_ | refine blk_alloc ?_ _)); exact BK214.out) rfl (by simp [Arr.arL_length]) (n := 18) (by kernel_rfl) (by simp [Arr.arL_length]) (Arr.ones_2 rfl rfl)
      clear hw_
      replace hbx : w26.heap[gb214]? = some (.cells (⟨(.bool true) :: (.slice Ao22 t217.length co22) :: Arr.arL .i8 a1_0⟩ : Array Value) 27 (0, 0)) := hbx
      have n0_ := Aside0.mk (blk_grown (g := gb213) (o := .cells (⟨Arr.arL .i8 a1_0⟩ : Array Value) 25 (0, 0)) (by (with_reducible repeat (first | refine blk_drewN ?_ _ | refine blk_drew ?_ | refine blk_alloc ?_ _)); exact BK213.out) hg (fun e_ => NB213_214.out (Option.some.inj e_)))
      have n1_ := Aside0.mk (hbx)
      have n2_ := Aside0.mk (blk_grown (g := gb215) (o := .cells (⟨(.bool false) :: (.slice none 0 0) :: Arr.arL .i8 (Vector.replicate 16 0 : Vector Int 16)⟩ : Array Value) 27 (0, 0)) (by (with_reducible repeat (first | refine blk_drewN ?_ _ | refine blk_drew ?_ | refine blk_alloc ?_ _)); exact BK215.out) hg (fun e_ => NB215_214.out (Option.some.inj e_)))
      have n3_ := Aside0.mk (Kd.R_grown1 (by (with_reducible repeat (first | apply Kd.R_alloc | apply Kd.R_drewN | apply Kd.R_drew)); exact HO220.out) rfl hg (Kd.R_ne HO220.out BK214.out (by decide)))
      have n4_ := Aside0.mk (Kd.R_grown1 (by (with_reducible repeat (first | apply Kd.R_alloc | apply Kd.R_drewN | apply Kd.R_drew)); exact HO223.out) rfl hg (Kd.R_ne HO223.out BK214.out (by decide)))
      have n5_ := Aside0.mk (hbe _ _ (by repeat (first | (with_reducible first | exact HB.out | apply below_alloc | apply pw_below_drewN | apply below_drew1 | refine below_set ?_ GE213.out | refine below_set ?_ GE214.out | refine below_set ?_ GE215.out) | exact HB.out)) GE214.out)
      clear BK213
      clear BK214
      clear BK215
      clear HO220
      clear HO223
      clear HB
      have BK213 := n0_
      have BK214 := n1_
      have BK215 := n2_
      have HO220 := n3_
      have HO223 := n4_
      have HB := n5_
      clear n0_ n1_ n2_ n3_ n4_ n5_
      (try clear hbx hg hbe)
      refine hK.out _ _ ?_
      clear hK K
      refine last_ (i := 9) (N := none) #[true, true, true, true, true, true, true, true, true, true, false] rfl rfl (one_of HT_.out (by kernel_rfl)) (by decide) (fun K hK => ?_)
      obtain ⟨w27, hw_, hbx, hg, hbe⟩ := Arr2.stored_row (g := gb215) (off := 0) (t := 27) (pre := []) (old := ((.bool false) :: (.slice none 0 0) :: Arr.arL .i8 (Vector.replicate 16 0 : Vector Int 16))) (m := ((.bool false) :: (.slice Ao25 t221.length co25) :: Arr.arL .i8 t224)) (show w26.heap[gb215]? = some (.cells (⟨(.bool false) :: (.slice none 0 0) :: Arr.arL .i8 (Vector.replicate 16 0 : Vector Int 16)⟩ : Array Value) 27 (0, 0)) from by (with_reducible repeat (first | refine blk_drewN ?_ _ | refine blk_drew ?_ | refine blk_alloc ?_ _)); exact BK215.out) rfl (by simp [Arr.arL_length])
      refine skip_ (w1 := w27) (by rfl) rfl ?_ ?_
      · rw [← hw_]
        exact Arr2.exec_store (T := 27) (p := 5) rfl (by first | (go_simp; done) | rfl | (go_simp; rfl)) (by first | (go_simp; done) | rfl | (go_simp; rfl)) (t := 27) (pre := []) (old := ((.bool false) :: (.slice none 0 0) :: Arr.arL .i8 (Vector.replicate 16 0 : Vector Int 16))) (show w26.heap[gb215]? = some (.cells (⟨(.bool false) :: (.slice none 0 0) :: Arr.arL .i8 (Vector.replicate 16 0 : Vector Int 16)⟩ : Array Value) 27 (0, 0)) from by (with_reducible repeat (first | refine blk_drewN ?_ _ | refine blk_drew ?_ | refine blk_alloc ?_ _)); exact BK215.out) rfl (by simp [Arr.arL_length]) (n := 18) (by kernel_rfl) (by simp [Arr.arL_length]) (Arr.ones_2 rfl rfl)
      clear hw_
      replace hbx : w27.heap[gb215]? = some (.cells (⟨(.bool false) :: (.slice Ao25 t221.length co25) :: Arr.arL .i8 t224⟩ : Array Value) 27 (0, 0)) := hbx
      have n0_ := Aside0.mk (blk_grown (g := gb213) (o := .cells (⟨Arr.arL .i8 a1_0⟩ : Array Value) 25 (0, 0)) (by (with_reducible repeat (first | refine blk_drewN ?_ _ | refine blk_drew ?_ | refine blk_alloc ?_ _)); exact BK213.out) hg (fun e_ => NB213_215.out (Option.some.inj e_)))
      have n1_ := Aside0.mk (blk_grown (g := gb214) (o := .cells (⟨(.bool true) :: (.slice Ao22 t217.length co22) :: Arr.arL .i8 a1_0⟩ : Array Value) 27 (0, 0)) (by (with_reducible repeat (first | refine blk_drewN ?_ _ | refine blk_drew ?_ | refine blk_alloc ?_ _)); exact BK214.out) hg (fun e_ => NB214_215.out (Option.some.inj e_)))
      have n2_ := Aside0.mk (hbx)
      have n3_ := Aside0.mk (Kd.R_grown1 (by (with_reducible repeat (first | apply Kd.R_alloc | apply Kd.R_drewN | apply Kd.R_drew)); exact HO220.out) rfl hg (Kd.R_ne HO220.out BK215.out (by decide)))
      have n4_ := Aside0.mk (Kd.R_grown1 (by (with_reducible repeat (first | apply Kd.R_alloc | apply Kd.R_drewN | apply Kd.R_drew)); exact HO223.out) rfl hg (Kd.R_ne HO223.out BK215.out (by decide)))
      have n5_ := Aside0.mk (hbe _ _ (by repeat (first | (with_reducible first | exact HB.out | apply below_alloc | apply pw_below_drewN | apply below_drew1 | refine below_set ?_ GE213.out | refine below_set ?_ GE214.out | refine below_set ?_ GE215.out) | exact HB.out)) GE215.out)
      clear BK213
      clear BK214
      clear BK215
      clear HO220
      clear HO223
      clear HB
      have BK213 := n0_
      have BK214 := n1_
      have BK215 := n2_
      have HO220 := n3_
      have HO223 := n4_
      have HB := n5_
      clear n0_ n1_ n2_ n3_ n4_ n5_
      (try clear hbx hg hbe)
      refine hK.out _ _ ?_
      clear hK K
      refine pure_ (i := 10) (N := some 6) (v := ?_) (a' := ?_) #[true, true, true, true, true, true, true, true, true, true, true] rfl rfl (any_of HT_.out (by kernel_rfl)) (fun _ _ _ h => h) (Or.inl ⟨by rfl, ?_⟩) ?_ ?_
      rotate_left
      · intro w'
        go_simp
        with_reducible rfl
      rotate_left
      · simp only [Act.put, List.setIfInBounds_toArray, List.set_cons_zero, List.set_cons_succ, i64_w, i32_w]
        rfl
      refine done_ (done_of HT_.out (by kernel_rfl)) ?_
      try go_wp2
      refine bodyPost_ret (results_list (rs := [.cell 4 27, .cell 5 27, .tmp 6]) rfl (by simp) (.cell gb214 27 (⟨(.bool true) :: (.slice Ao22 t217.length co22) :: Arr.arL .i8 a1_0⟩ : Array Value) (0, 0) _ rfl (by (with_reducible repeat (first | refine blk_drewN ?_ _ | refine blk_drew ?_ | refine blk_alloc ?_ _)); exact BK214.out) Try.underlying27 rfl (by rw [show (Try.prog.info? 27).map (·.size) = some 18 from by kernel_rfl]; simp [Arr.arL_length]) (.cell gb215 27 (⟨(.bool false) :: (.slice Ao25 t221.length co25) :: Arr.arL .i8 t224⟩ : Array Value) (0, 0) _ rfl (by (with_reducible repeat (first | refine blk_drewN ?_ _ | refine blk_drew ?_ | refine blk_alloc ?_ _)); exact BK215.out) Try.underlying27 rfl (by rw [show (Try.prog.info? 27).map (·.size) = some 18 from by kernel_rfl]; simp [Arr.arL_length]) (.tmp .nil)))) rfl ?_
      exact ⟨_, _, by first | rfl | (simp [errW_none, errW_some] <;> rfl) | (simp [*, errW_none, errW_some] <;> rfl), by (with_reducible repeat (first | apply Kd.R_alloc | apply Kd.R_drewN | apply Kd.R_drew)); exact Kd.R_mono HO220.out (fun _ hk => hk.2), by (with_reducible repeat (first | apply Kd.R_alloc | apply Kd.R_drewN | apply Kd.R_drew)); exact Kd.R_mono HO223.out (fun _ hk => hk.2), by repeat (first | (with_reducible first | exact HB.out | apply below_alloc | apply pw_below_drewN | apply below_drew1 | refine below_set ?_ GE213.out | refine below_set ?_ GE214.out | refine below_set ?_ GE215.out) | exact HB.out)⟩
    · rw [if_neg c7] at H
      have c7b0 : (t218 == 0) = false := beq_eq_false_iff_ne.mpr c7
      have c7b1 : (t218 != 0) = true := bne_iff_ne.mpr c7
      simp only [Option.some.injEq, Prod.mk.injEq] at H
      obtain ⟨rfl, rfl, rfl, rfl, rfl, rfl, rfl⟩ := H
      go_enter Try.func9, Try.ntmps9
      go_wp2_with (first | ((with_reducible refine gate_dst (N := 3) rfl ?_); refine box_event ?hg (N := 3) ?hd (cs := (⟨Arr.arL .i8 a1_0⟩ : Array Value)) (t := 25) ?hr ?_; (case hd => rfl); (case hg => rfl); (case hr => first | (go_simp; done) | (go_simp; rfl)); intro gb213 hg w30 hbox hb; have n0_ := Aside0.mk (below_step (by repeat (first | (with_reducible first | exact HB.out | apply below_alloc | apply pw_below_drewN | apply below_drew1) | exact HB.out)) hb); have n1_ := Aside0.mk (hbox); have n2_ := Aside0.mk ((by rw [hg]; exact (below_size (by repeat (first | (with_reducible first | exact HB.out | apply below_alloc | apply pw_below_drewN | apply below_drew1) | exact HB.out))) : w.heap.size ≤ gb213)); have n3_ := Aside0.mk ((by rw [hg]; exact (below_size (by repeat (first | (with_reducible first | exact HB.out | apply below_alloc | apply pw_below_drewN | apply below_drew1) | exact HB.out))) : w.heap.size ≤ gb213)); clear HB; have HB := n0_; have BK213 := n1_; have GW213 := n2_; have GE213 := n3_; clear n0_ n1_ n2_ n3_; clear hb hbox hg) | ((with_reducible refine gate_dst (N := 4) rfl ?_); refine box_event ?hg (N := 4) ?hd (cs := (⟨(.bool false) :: (.slice none 0 0) :: Arr.arL .i8 (Vector.replicate 16 0 : Vector Int 16)⟩ : Array Value)) (t := 27) ?hr ?_; (case hd => rfl); (case hg => rfl); (case hr => first | (go_simp; done) | (go_simp; rfl)); intro gb214 hg w31 hbox hb; have n0_ := Aside0.mk (blk_below (g := gb213) (o := .cells (⟨Arr.arL .i8 a1_0⟩ : Array Value) 25 (0, 0)) (by (with_reducible repeat (first | refine blk_drewN ?_ _ | refine blk_drew ?_ | refine blk_alloc ?_ _)); exact BK213.out) hb); have n1_ := Aside0.mk (below_step (by repeat (first | (with_reducible first | exact HB.out | apply below_alloc | apply pw_below_drewN | apply below_drew1 | refine below_set ?_ GE213.out) | exact HB.out)) hb); have n2_ := Aside0.mk (hbox); have n3_ := Aside0.mk ((by rw [hg]; exact (below_size (by repeat (first | (with_reducible first | exact HB.out | apply below_alloc | apply pw_below_drewN | apply below_drew1 | refine below_set ?_ GE213.out) | exact HB.out))) : w.heap.size ≤ gb214)); have n4_ := Aside0.mk ((by rw [hg]; exact (below_size (by repeat (first | (with_reducible first | exact HB.out | apply below_alloc | apply pw_below_drewN | apply below_drew1 | refine below_set ?_ GE213.out) | exact HB.out))) : w.heap.size ≤ gb214)); have n5_ := Aside0.mk ((by rw [hg]; exact Nat.ne_of_lt (blk_lt (g := gb213) (o := .cells (⟨Arr.arL .i8 a1_0⟩ : Array Value) 25 (0, 0)) (by (with_reducible repeat (first | refine blk_drewN ?_ _ | refine blk_drew ?_ | refine blk_alloc ?_ _)); exact BK213.out)) : gb213 ≠ gb214)); have n6_ := Aside0.mk ((by rw [hg]; exact Nat.ne_of_gt (blk_lt (g := gb213) (o := .cells (⟨Arr.arL .i8 a1_0⟩ : Array Value) 25 (0, 0)) (by (with_reducible repeat (first | refine blk_drewN ?_ _ | refine blk_drew ?_ | refine blk_alloc ?_ _)); exact BK213.out)) : gb214 ≠ gb213)); clear BK213; clear HB; have BK213 := n0_; have HB := n1_; have BK214 := n2_; have GW214 := n3_; have GE214 := n4_; have NB213_214 := n5_; have NB214_213 := n6_; clear n0_ n1_ n2_ n3_ n4_ n5_ n6_; clear hb hbox hg) | ((with_reducible refine gate_dst (N := 5) rfl ?_); refine box_event ?hg (N := 5) ?hd (cs := (⟨(.bool false) :: (.slice none 0 0) :: Arr.arL .i8 (Vector.replicate 16 0 : Vector Int 16)⟩ : Array Value)) (t := 27) ?hr ?_; (case hd => rfl); (case hg => rfl); (case hr => first | (go_simp; done) | (go_simp; rfl)); intro gb215 hg w32 hbox hb; have n0_ := Aside0.mk (blk_below (g := gb213) (o := .cells (⟨Arr.arL .i8 a1_0⟩ : Array Value) 25 (0, 0)) (by (with_reducible repeat (first | refine blk_drewN ?_ _ | refine blk_drew ?_ | refine blk_alloc ?_ _)); exact BK213.out) hb); have n1_ := Aside0.mk (blk_below (g := gb214) (o := .cells (⟨(.bool false) :: (.slice none 0 0) :: Arr.arL .i8 (Vector.replicate 16 0 : Vector Int 16)⟩ : Array Value) 27 (0, 0)) (by (with_reducible repeat (first | refine blk_drewN ?_ _ | refine blk_drew ?_ | refine blk_alloc ?_ _)); exact BK214.out) hb); have n2_ := Aside0.mk (below_step (by repeat (first | (with_reducible first | exact HB.out | apply below_alloc | apply pw_below_drewN | apply below_drew1 | refine below_set ?_ GE213.out | refine below_set ?_ GE214.out) | exact HB.out)) hb); have n3_ := Aside0.mk (hbox); have n4_ := Aside0.mk ((by rw [hg]; exact (below_size (by repeat (first | (with_reducible first | exact HB.out | apply below_alloc | apply pw_below_drewN | apply below_drew1 | refine below_set ?_ GE213.out | refine below_set ?_ GE214.out) | exact HB.out))) : w.heap.size ≤ gb215)); have n5_ := Aside0.mk ((by rw [hg]; exact (below_size (by repeat (first | (with_reducible first | exact HB.out | apply below_alloc | apply pw_below_drewN | apply below_drew1 | refine below_set ?_ GE213.out | refine below_set ?_ GE214.out) | exact HB.out))) : w.heap.size ≤ gb215)); have n6_ := Aside0.mk ((by rw [hg]; exact Nat.ne_of_lt (blk_lt (g := gb213) (o := .cells (⟨Arr.arL .i8 a1_0⟩ : Array Value) 25 (0, 0)) (by (with_reducible repeat (first | refine blk_drewN ?_ _ | refine blk_drew ?_ | refine blk_alloc ?_ _)); exact BK213.out)) : gb213 ≠ gb215)); have n7_ := Aside0.mk ((by rw [hg]; exact Nat.ne_of_gt (blk_lt (g := gb213) (o := .cells (⟨Arr.arL .i8 a1_0⟩ : Array Value) 25 (0, 0)) (by (with_reducible repeat (first | refine blk_drewN ?_ _ | refine blk_drew ?_ | refine blk_alloc ?_ _)); exact BK213.out)) : gb215 ≠ gb213)); have n8_ := Aside0.mk ((by rw [hg]; exact Nat.ne_of_lt (blk_lt (g := gb214) (o := .cells (⟨(.bool false) :: (.slice none 0 0) :: Arr.arL .i8 (Vector.replicate 16 0 : Vector Int 16)⟩ : Array Value) 27 (0, 0)) (by (with_reducible repeat (first | refine blk_drewN ?_ _ | refine blk_drew ?_ | refine blk_alloc ?_ _)); exact BK214.out)) : gb214 ≠ gb215)); have n9_ := Aside0.mk ((by rw [hg]; exact Nat.ne_of_gt (blk_lt (g := gb214) (o := .cells (⟨(.bool false) :: (.slice none 0 0) :: Arr.arL .i8 (Vector.replicate 16 0 : Vector Int 16)⟩ : Array Value) 27 (0, 0)) (by (with_reducible repeat (first | refine blk_drewN ?_ _ | refine blk_drew ?_ | refine blk_alloc ?_ _)); exact BK214.out)) : gb215 ≠ gb214)); clear BK213; clear BK214; clear HB; have BK213 := n0_; have BK214 := n1_; have HB := n2_; have BK215 := n3_; have GW215 := n4_; have GE215 := n5_; have NB213_215 := n6_; have NB215_213 := n7_; have NB214_215 := n8_; have NB215_214 := n9_; clear n0_ n1_ n2_ n3_ n4_ n5_ n6_ n7_ n8_ n9_; clear hb hbox hg) | ((with_reducible refine Arr.gate_load (t := 25) (p := 3) rfl ?_); (try (refine gate_guard (by rfl) ?_; dsimp only)); refine Arr.loadA ?hg (T := 25) (p := 3) ?ho (g := gb213) (off := 0) ?hx (t := 25) (l := (Arr.arL .i8 a1_0)) (m := (Arr.arL .i8 a1_0)) (fr := (0, 0)) (show w32.heap[gb213]? = some (.cells (⟨Arr.arL .i8 a1_0⟩ : Array Value) 25 (0, 0)) from by (with_reducible repeat (first | refine blk_drewN ?_ _ | refine blk_drew ?_ | refine blk_alloc ?_ _)); exact BK213.out) rfl Try.underlying25 rfl (n := 16) (by kernel_rfl) (by simp [Arr.arL_length]) ?_; (case hg => rfl); (case ho => rfl); (case hx => first | (go_simp; done) | rfl | (go_simp; rfl))) | ((with_reducible refine gate_callee (f := 39) rfl ?_); refine goesL_ (some 10) rfl rfl Try.func39 (by kernel_rfl) rfl #[.agg (⟨Arr.arL .i8 a1_0⟩ : Array Value)] rfl (by (try simp only [List.map_toArray, List.map_cons, List.map_nil]); first | done | (go_simp; done) | rfl | (simp only [List.length_drop, List.length_take]; rfl)) ?_; (with_reducible refine (impl_ValidGrain.calls k a1_0 true _ A4.out).mono ?_); rintro e w33 ⟨rfl, hb⟩; refine ⟨_, rfl, ?_⟩; have n0_ := Aside0.mk (blk_below (g := gb213) (o := .cells (⟨Arr.arL .i8 a1_0⟩ : Array Value) 25 (0, 0)) (by (with_reducible repeat (first | refine blk_drewN ?_ _ | refine blk_drew ?_ | refine blk_alloc ?_ _)); exact BK213.out) hb); have n1_ := Aside0.mk (blk_below (g := gb214) (o := .cells (⟨(.bool false) :: (.slice none 0 0) :: Arr.arL .i8 (Vector.replicate 16 0 : Vector Int 16)⟩ : Array Value) 27 (0, 0)) (by (with_reducible repeat (first | refine blk_drewN ?_ _ | refine blk_drew ?_ | refine blk_alloc ?_ _)); exact BK214.out) hb); have n2_ := Aside0.mk (blk_below (g := gb215) (o := .cells (⟨(.bool false) :: (.slice none 0 0) :: Arr.arL .i8 (Vector.replicate 16 0 : Vector Int 16)⟩ : Array Value) 27 (0, 0)) (by (with_reducible repeat (first | refine blk_drewN ?_ _ | refine blk_drew ?_ | refine blk_alloc ?_ _)); exact BK215.out) hb); have n3_ := Aside0.mk (below_step (by repeat (first | (with_reducible first | exact HB.out | apply below_alloc | apply pw_below_drewN | apply below_drew1 | refine below_set ?_ GE213.out | refine below_set ?_ GE214.out | refine below_set ?_ GE215.out) | exact HB.out)) hb); clear BK213; clear BK214; clear BK215; clear HB; have BK213 := n0_; have BK214 := n1_; have BK215 := n2_; have HB := n3_; clear n0_ n1_ n2_ n3_; (try clear hb); (try clear hb2); (try clear hk); (try clear hi)) | ((with_reducible refine gate_callee (f := 40) rfl ?_); refine goesL_ (some 16) rfl rfl Try.func40 (by kernel_rfl) rfl #[.int .i64 a0] rfl (by (try simp only [List.map_toArray, List.map_cons, List.map_nil]); first | done | (go_simp; done) | rfl | (simp only [List.length_drop, List.length_take]; rfl)) ?_; (with_reducible refine (impl_NotchesFor.calls k a0 t217 t218 _ A6.out).mono ?_); rintro e w34 ⟨v219, rfl, ho0, hb⟩; refine ⟨_, rfl, ?_⟩; have n0_ := Aside0.mk (Kd.R_lower ho0 (below_size (by repeat (first | (with_reducible first | exact HB.out | apply below_alloc | apply pw_below_drewN | apply below_drew1 | refine below_set ?_ GE213.out | refine below_set ?_ GE214.out | refine below_set ?_ GE215.out) | exact HB.out)))); have n1_ := Aside0.mk (blk_below (g := gb213) (o := .cells (⟨Arr.arL .i8 a1_0⟩ : Array Value) 25 (0, 0)) (by (with_reducible repeat (first | refine blk_drewN ?_ _ | refine blk_drew ?_ | refine blk_alloc ?_ _)); exact BK213.out) hb); have n2_ := Aside0.mk (blk_below (g := gb214) (o := .cells (⟨(.bool false) :: (.slice none 0 0) :: Arr.arL .i8 (Vector.replicate 16 0 : Vector Int 16)⟩ : Array Value) 27 (0, 0)) (by (with_reducible repeat (first | refine blk_drewN ?_ _ | refine blk_drew ?_ | refine blk_alloc ?_ _)); exact BK214.out) hb); have n3_ := Aside0.mk (blk_below (g := gb215) (o := .cells (⟨(.bool false) :: (.slice none 0 0) :: Arr.arL .i8 (Vector.replicate 16 0 : Vector Int 16)⟩ : Array Value) 27 (0, 0)) (by (with_reducible repeat (first | refine blk_drewN ?_ _ | refine blk_drew ?_ | refine blk_alloc ?_ _)); exact BK215.out) hb); have n4_ := Aside0.mk (below_step (by repeat (first | (with_reducible first | exact HB.out | apply below_alloc | apply pw_below_drewN | apply below_drew1 | refine below_set ?_ GE213.out | refine below_set ?_ GE214.out | refine below_set ?_ GE215.out) | exact HB.out)) hb); clear BK213; clear BK214; clear BK215; clear HB; have HO220 := n0_; have BK213 := n1_; have BK214 := n2_; have BK215 := n3_; have HB := n4_; clear n0_ n1_ n2_ n3_ n4_; (try clear hb); (try clear hb2); (try clear hk); (try clear hi); (try clear ho0)) | ((with_reducible refine gate_store (t := 27) (p := 4) rfl ?_); refine Arr.storeA ?hg (T := 27) (p := 4) (v := ?vo_w35) ?ho ?hn (g := gb214) (off := 0) ?hx (m := ((.bool false) :: (.slice none 0 0) :: Arr.arL .i8 (Vector.replicate 16 0 : Vector Int 16))) ?hy (t := 27) (pre := []) (old := ((.bool false) :: (.slice none 0 0) :: Arr.arL .i8 (Vector.replicate 16 0 : Vector Int 16))) (show w34.heap[gb214]? = some (.cells (⟨(.bool false) :: (.slice none 0 0) :: Arr.arL .i8 (Vector.replicate 16 0 : Vector Int 16)⟩ : Array Value) 27 (0, 0)) from by (with_reducible repeat (first | refine blk_drewN ?_ _ | refine blk_drew ?_ | refine blk_alloc ?_ _)); exact BK214.out) rfl (by simp [Arr.arL_length]) (n := 18) (by kernel_rfl) (by simp [Arr.arL_length]) (Arr.ones_2 rfl rfl) ?_; (case ho => rfl); (case hg => rfl); (case hn => rfl); (case hx => first | (go_simp; done) | rfl | (go_simp; rfl)); (case hy => first | (go_simp; done) | rfl | (go_simp; rfl)); intro w35 hbx hg hbe; replace hbx : w35.heap[gb214]? = some (.cells (⟨(.bool false) :: (.slice none 0 0) :: Arr.arL .i8 (Vector.replicate 16 0 : Vector Int 16)⟩ : Array Value) 27 (0, 0)) := hbx; have n0_ := Aside0.mk (blk_grown (g := gb213) (o := .cells (⟨Arr.arL .i8 a1_0⟩ : Array Value) 25 (0, 0)) (by (with_reducible repeat (first | refine blk_drewN ?_ _ | refine blk_drew ?_ | refine blk_alloc ?_ _)); exact BK213.out) hg (fun e_ => NB213_214.out (Option.some.inj e_))); have n1_ := Aside0.mk (hbx); have n2_ := Aside0.mk (blk_grown (g := gb215) (o := .cells (⟨(.bool false) :: (.slice none 0 0) :: Arr.arL .i8 (Vector.replicate 16 0 : Vector Int 16)⟩ : Array Value) 27 (0, 0)) (by (with_reducible repeat (first | refine blk_drewN ?_ _ | refine blk_drew ?_ | refine blk_alloc ?_ _)); exact BK215.out) hg (fun e_ => NB215_214.out (Option.some.inj e_))); have n3_ := Aside0.mk (Kd.R_grown1 (by (with_reducible repeat (first | apply Kd.R_alloc | apply Kd.R_drewN | apply Kd.R_drew)); exact HO220.out) rfl hg (Kd.R_ne HO220.out BK214.out (by decide))); have n4_ := Aside0.mk (hbe _ _ (by repeat (first | (with_reducible first | exact HB.out | apply below_alloc | apply pw_below_drewN | apply below_drew1 | refine below_set ?_ GE213.out | refine below_set ?_ GE214.out | refine below_set ?_ GE215.out) | exact HB.out)) GE214.out); clear BK213; clear BK214; clear BK215; clear HO220; clear HB; have BK213 := n0_; have BK214 := n1_; have BK215 := n2_; have HO220 := n3_; have HB := n4_; clear n0_ n1_ n2_ n3_ n4_; (try clear hbx hg hbe)) | ((with_reducible refine gate_store (t := 27) (p := 5) rfl ?_); refine Arr.storeA ?hg (T := 27) (p := 5) (v := ?vo_w36) ?ho ?hn (g := gb215) (off := 0) ?hx (m := ((.bool false) :: (.slice none 0 0) :: Arr.arL .i8 (Vector.replicate 16 0 : Vector Int 16))) ?hy (t := 27) (pre := []) (old := ((.bool false) :: (.slice none 0 0) :: Arr.arL .i8 (Vector.replicate 16 0 : Vector Int 16))) (show w35.heap[gb215]? = some (.cells (⟨(.bool false) :: (.slice none 0 0) :: Arr.arL .i8 (Vector.replicate 16 0 : Vector Int 16)⟩ : Array Value) 27 (0, 0)) from by (with_reducible repeat (first | refine blk_drewN ?_ _ | refine blk_drew ?_ | refine blk_alloc ?_ _)); exact BK215.out) rfl (by simp [Arr.arL_length]) (n := 18) (by kernel_rfl) (by simp [Arr.arL_length]) (Arr.ones_2 rfl rfl) ?_; (case ho => rfl); (case hg => rfl); (case hn => rfl); (case hx => first | (go_simp; done) | rfl | (go_simp; rfl)); (case hy => first | (go_simp; done) | rfl | (go_simp; rfl)); intro w36 hbx hg hbe; replace hbx : w36.heap[gb215]? = some (.cells (⟨(.bool false) :: (.slice none 0 0) :: Arr.arL .i8 (Vector.replicate 16 0 : Vector Int 16)⟩ : Array Value) 27 (0, 0)) := hbx; have n0_ := Aside0.mk (blk_grown (g := gb213) (o := .cells (⟨Arr.arL .i8 a1_0⟩ : Array Value) 25 (0, 0)) (by (with_reducible repeat (first | refine blk_drewN ?_ _ | refine blk_drew ?_ | refine blk_alloc ?_ _)); exact BK213.out) hg (fun e_ => NB213_215.out (Option.some.inj e_))); have n1_ := Aside0.mk (blk_grown (g := gb214) (o := .cells (⟨(.bool false) :: (.slice none 0 0) :: Arr.arL .i8 (Vector.replicate 16 0 : Vector Int 16)⟩ : Array Value) 27 (0, 0)) (by (with_reducible repeat (first | refine blk_drewN ?_ _ | refine blk_drew ?_ | refine blk_alloc ?_ _)); exact BK214.out) hg (fun e_ => NB214_215.out (Option.some.inj e_))); have n2_ := Aside0.mk (hbx); have n3_ := Aside0.mk (Kd.R_grown1 (by (with_reducible repeat (first | apply Kd.R_alloc | apply Kd.R_drewN | apply Kd.R_drew)); exact HO220.out) rfl hg (Kd.R_ne HO220.out BK215.out (by decide))); have n4_ := Aside0.mk (hbe _ _ (by repeat (first | (with_reducible first | exact HB.out | apply below_alloc | apply pw_below_drewN | apply below_drew1 | refine below_set ?_ GE213.out | refine below_set ?_ GE214.out | refine below_set ?_ GE215.out) | exact HB.out)) GE215.out); clear BK213; clear BK214; clear BK215; clear HO220; clear HB; have BK213 := n0_; have BK214 := n1_; have BK215 := n2_; have HO220 := n3_; have HB := n4_; clear n0_ n1_ n2_ n3_ n4_; (try clear hbx hg hbe)))
      refine bodyPost_ret (results_list (rs := [.cell 4 27, .cell 5 27, .tmp 6]) rfl (by simp) (.cell gb214 27 (⟨(.bool false) :: (.slice none 0 0) :: Arr.arL .i8 (Vector.replicate 16 0 : Vector Int 16)⟩ : Array Value) (0, 0) _ rfl (by (with_reducible repeat (first | refine blk_drewN ?_ _ | refine blk_drew ?_ | refine blk_alloc ?_ _)); exact BK214.out) Try.underlying27 rfl (by rw [show (Try.prog.info? 27).map (·.size) = some 18 from by kernel_rfl]; simp [Arr.arL_length]) (.cell gb215 27 (⟨(.bool false) :: (.slice none 0 0) :: Arr.arL .i8 (Vector.replicate 16 0 : Vector Int 16)⟩ : Array Value) (0, 0) _ rfl (by (with_reducible repeat (first | refine blk_drewN ?_ _ | refine blk_drew ?_ | refine blk_alloc ?_ _)); exact BK215.out) Try.underlying27 rfl (by rw [show (Try.prog.info? 27).map (·.size) = some 18 from by kernel_rfl]; simp [Arr.arL_length]) (.tmp .nil)))) rfl ?_
      exact ⟨_, _, by first | rfl | (simp [errW_none, errW_some] <;> rfl) | (simp [*, errW_none, errW_some] <;> rfl), by first | exact Kd.R_nil _ _ _ _ _ | exact Kd.N_nil _ _ _ _ _ | exact Kd.V_nil _ _ _ _ _ | exact Kd.Q_nil _ _ _ _ _ | exact Kd.S_nil _ _ _ _ _, by first | exact Kd.R_nil _ _ _ _ _ | exact Kd.N_nil _ _ _ _ _ | exact Kd.V_nil _ _ _ _ _ | exact Kd.Q_nil _ _ _ _ _ | exact Kd.S_nil _ _ _ _ _, by repeat (first | (with_reducible first | exact HB.out | apply below_alloc | apply pw_below_drewN | apply below_drew1 | refine below_set ?_ GE213.out | refine below_set ?_ GE214.out | refine below_set ?_ GE215.out) | exact HB.out)⟩
  · replace c5 := Bool.eq_false_iff.mpr c5
    subst c5
    have H1 : (some (false, ([] : List (S71)), (Vector.replicate 16 0 : Vector Int 16), false, ([] : List (S71)), (Vector.replicate 16 0 : Vector Int 16), 1)) = some (r1, r2, r3, r4, r5, r6, r7) := by rw [if_neg (show ¬ (false = true) by decide)] at H; exact H
    clear H
    have H := H1
    clear H1
    simp only [Option.some.injEq, Prod.mk.injEq] at H
    obtain ⟨rfl, rfl, rfl, rfl, rfl, rfl, rfl⟩ := H
    go_enter Try.func9, Try.ntmps9
    go_wp2_with (first | ((with_reducible refine gate_dst (N := 3) rfl ?_); refine box_event ?hg (N := 3) ?hd (cs := (⟨Arr.arL .i8 a1_0⟩ : Array Value)) (t := 25) ?hr ?_; (case hd => rfl); (case hg => rfl); (case hr => first | (go_simp; done) | (go_simp; rfl)); intro gb213 hg w39 hbox hb; have n0_ := Aside0.mk (below_step (by repeat (first | (with_reducible first | exact HB.out | apply below_alloc | apply pw_below_drewN | apply below_drew1) | exact HB.out)) hb); have n1_ := Aside0.mk (hbox); have n2_ := Aside0.mk ((by rw [hg]; exact (below_size (by repeat (first | (with_reducible first | exact HB.out | apply below_alloc | apply pw_below_drewN | apply below_drew1) | exact HB.out))) : w.heap.size ≤ gb213)); have n3_ := Aside0.mk ((by rw [hg]; exact (below_size (by repeat (first | (with_reducible first | exact HB.out | apply below_alloc | apply pw_below_drewN | apply below_drew1) | exact HB.out))) : w.heap.size ≤ gb213)); clear HB; have HB := n0_; have BK213 := n1_; have GW213 := n2_; have GE213 := n3_; clear n0_ n1_ n2_ n3_; clear hb hbox hg) | ((with_reducible refine gate_dst (N := 4) rfl ?_); refine box_event ?hg (N := 4) ?hd (cs := (⟨(.bool false) :: (.slice none 0 0) :: Arr.arL .i8 (Vector.replicate 16 0 : Vector Int 16)⟩ : Array Value)) (t := 27) ?hr ?_; (case hd => rfl); (case hg => rfl); (case hr => first | (go_simp; done) | (go_simp; rfl)); intro gb214 hg w40 hbox hb; have n0_ := Aside0.mk (blk_below (g := gb213) (o := .cells (⟨Arr.arL .i8 a1_0⟩ : Array Value) 25 (0, 0)) (by (with_reducible repeat (first | refine blk_drewN ?_ _ | refine blk_drew ?_ | refine blk_alloc ?_ _)); exact BK213.out) hb); have n1_ := Aside0.mk (below_step (by repeat (first | (with_reducible first | exact HB.out | apply below_alloc | apply pw_below_drewN | apply below_drew1 | refine below_set ?_ GE213.out) | exact HB.out)) hb); have n2_ := Aside0.mk (hbox); have n3_ := Aside0.mk ((by rw [hg]; exact (below_size (by repeat (first | (with_reducible first | exact HB.out | apply below_alloc | apply pw_below_drewN | apply below_drew1 | refine below_set ?_ GE213.out) | exact HB.out))) : w.heap.size ≤ gb214)); have n4_ := Aside0.mk ((by rw [hg]; exact (below_size (by repeat (first | (with_reducible first | exact HB.out | apply below_alloc | apply pw_below_drewN | apply below_drew1 | refine below_set ?_ GE213.out) | exact HB.out))) : w.heap.size ≤ gb214)); have n5_ := Aside0.mk ((by rw [hg]; exact Nat.ne_of_lt (blk_lt (g := gb213) (o := .cells (⟨Arr.arL .i8 a1_0⟩ : Array Value) 25 (0, 0)) (by (with_reducible repeat (first | refine blk_drewN ?_ _ | refine blk_drew ?_ | refine blk_alloc ?_ _)); exact BK213.out)) : gb213 ≠ gb214)); have n6_ := Aside0.mk ((by rw [hg]; exact Nat.ne_of_gt (blk_lt (g := gb213) (o := .cells (⟨Arr.arL .i8 a1_0⟩ : Array Value) 25 (0, 0)) (by (with_reducible repeat (first | refine blk_drewN ?_ _ | refine blk_drew ?_ | refine blk_alloc ?_ _)); exact BK213.out)) : gb214 ≠ gb213)); clear BK213; clear HB; have BK213 := n0_; have HB := n1_; have BK214 := n2_; have GW214 := n3_; have GE214 := n4_; have NB213_214 := n5_; have NB214_213 := n6_; clear n0_ n1_ n2_ n3_ n4_ n5_ n6_; clear hb hbox hg) | ((with_reducible refine gate_dst (N := 5) rfl ?_); refine box_event ?hg (N := 5) ?hd (cs := (⟨(.bool false) :: (.slice none 0 0) :: Arr.arL .i8 (Vector.replicate 16 0 : Vector Int 16)⟩ : Array Value)) (t := 27) ?hr ?_; (case hd => rfl); (case hg => rfl); (case hr => first | (go_simp; done) | (go_simp; rfl)); intro gb215 hg w41 hbox hb; have n0_ := Aside0.mk (blk_below (g := gb213) (o := .cells (⟨Arr.arL .i8 a1_0⟩ : Array Value) 25 (0, 0)) (by (with_reducible repeat (first | refine blk_drewN ?_ _ | refine blk_drew ?_ | refine blk_alloc ?_ _)); exact BK213.out) hb); have n1_ := Aside0.mk (blk_below (g := gb214) (o := .cells (⟨(.bool false) :: (.slice none 0 0) :: Arr.arL .i8 (Vector.replicate 16 0 : Vector Int 16)⟩ : Array Value) 27 (0, 0)) (by (with_reducible repeat (first | refine blk_drewN ?_ _ | refine blk_drew ?_ | refine blk_alloc ?_ _)); exact BK214.out) hb); have n2_ := Aside0.mk (below_step (by repeat (first | (with_reducible first | exact HB.out | apply below_alloc | apply pw_below_drewN | apply below_drew1 | refine below_set ?_ GE213.out | refine below_set ?_ GE214.out) | exact HB.out)) hb); have n3_ := Aside0.mk (hbox); have n4_ := Aside0.mk ((by rw [hg]; exact (below_size (by repeat (first | (with_reducible first | exact HB.out | apply below_alloc | apply pw_below_drewN | apply below_drew1 | refine below_set ?_ GE213.out | refine below_set ?_ GE214.out) | exact HB.out))) : w.heap.size ≤ gb215)); have n5_ := Aside0.mk ((by rw [hg]; exact (below_size (by repeat (first | (with_reducible first | exact HB.out | apply below_alloc | apply pw_below_drewN | apply below_drew1 | refine below_set ?_ GE213.out | refine below_set ?_ GE214.out) | exact HB.out))) : w.heap.size ≤ gb215)); have n6_ := Aside0.mk ((by rw [hg]; exact Nat.ne_of_lt (blk_lt (g := gb213) (o := .cells (⟨Arr.arL .i8 a1_0⟩ : Array Value) 25 (0, 0)) (by (with_reducible repeat (first | refine blk_drewN ?_ _ | refine blk_drew ?_ | refine blk_alloc ?_ _)); exact BK213.out)) : gb213 ≠ gb215)); have n7_ := Aside0.mk ((by rw [hg]; exact Nat.ne_of_gt (blk_lt (g := gb213) (o := .cells (⟨Arr.arL .i8 a1_0⟩ : Array Value) 25 (0, 0)) (by (with_reducible repeat (first | refine blk_drewN ?_ _ | refine blk_drew ?_ | refine blk_alloc ?_ _)); exact BK213.out)) : gb215 ≠ gb213)); have n8_ := Aside0.mk ((by rw [hg]; exact Nat.ne_of_lt (blk_lt (g := gb214) (o := .cells (⟨(.bool false) :: (.slice none 0 0) :: Arr.arL .i8 (Vector.replicate 16 0 : Vector Int 16)⟩ : Array Value) 27 (0, 0)) (by (with_reducible repeat (first | refine blk_drewN ?_ _ | refine blk_drew ?_ | refine blk_alloc ?_ _)); exact BK214.out)) : gb214 ≠ gb215)); have n9_ := Aside0.mk ((by rw [hg]; exact Nat.ne_of_gt (blk_lt (g := gb214) (o := .cells (⟨(.bool false) :: (.slice none 0 0) :: Arr.arL .i8 (Vector.replicate 16 0 : Vector Int 16)⟩ : Array Value) 27 (0, 0)) (by (with_reducible repeat (first | refine blk_drewN ?_ _ | refine blk_drew ?_ | refine blk_alloc ?_ _)); exact BK214.out)) : gb215 ≠ gb214)); clear BK213; clear BK214; clear HB; have BK213 := n0_; have BK214 := n1_; have HB := n2_; have BK215 := n3_; have GW215 := n4_; have GE215 := n5_; have NB213_215 := n6_; have NB215_213 := n7_; have NB214_215 := n8_; have NB215_214 := n9_; clear n0_ n1_ n2_ n3_ n4_ n5_ n6_ n7_ n8_ n9_; clear hb hbox hg) | ((with_reducible refine Arr.gate_load (t := 25) (p := 3) rfl ?_); (try (refine gate_guard (by rfl) ?_; dsimp only)); refine Arr.loadA ?hg (T := 25) (p := 3) ?ho (g := gb213) (off := 0) ?hx (t := 25) (l := (Arr.arL .i8 a1_0)) (m := (Arr.arL .i8 a1_0)) (fr := (0, 0)) (show w41.heap[gb213]? = some (.cells (⟨Arr.arL .i8 a1_0⟩ : Array Value) 25 (0, 0)) from by (with_reducible repeat (first | refine blk_drewN ?_ _ | refine blk_drew ?_ | refine blk_alloc ?_ _)); exact BK213.out) rfl Try.underlying25 rfl (n := 16) (by kernel_rfl) (by simp [Arr.arL_length]) ?_; (case hg => rfl); (case ho => rfl); (case hx => first | (go_simp; done) | rfl | (go_simp; rfl))) | ((with_reducible refine gate_callee (f := 39) rfl ?_); refine goesL_ (some 10) rfl rfl Try.func39 (by kernel_rfl) rfl #[.agg (⟨Arr.arL .i8 a1_0⟩ : Array Value)] rfl (by (try simp only [List.map_toArray, List.map_cons, List.map_nil]); first | done | (go_simp; done) | rfl | (simp only [List.length_drop, List.length_take]; rfl)) ?_; (with_reducible refine (impl_ValidGrain.calls k a1_0 false _ A4.out).mono ?_); rintro e w42 ⟨rfl, hb⟩; refine ⟨_, rfl, ?_⟩; have n0_ := Aside0.mk (blk_below (g := gb213) (o := .cells (⟨Arr.arL .i8 a1_0⟩ : Array Value) 25 (0, 0)) (by (with_reducible repeat (first | refine blk_drewN ?_ _ | refine blk_drew ?_ | refine blk_alloc ?_ _)); exact BK213.out) hb); have n1_ := Aside0.mk (blk_below (g := gb214) (o := .cells (⟨(.bool false) :: (.slice none 0 0) :: Arr.arL .i8 (Vector.replicate 16 0 : Vector Int 16)⟩ : Array Value) 27 (0, 0)) (by (with_reducible repeat (first | refine blk_drewN ?_ _ | refine blk_drew ?_ | refine blk_alloc ?_ _)); exact BK214.out) hb); have n2_ := Aside0.mk (blk_below (g := gb215) (o := .cells (⟨(.bool false) :: (.slice none 0 0) :: Arr.arL .i8 (Vector.replicate 16 0 : Vector Int 16)⟩ : Array Value) 27 (0, 0)) (by (with_reducible repeat (first | refine blk_drewN ?_ _ | refine blk_drew ?_ | refine blk_alloc ?_ _)); exact BK215.out) hb); have n3_ := Aside0.mk (below_step (by repeat (first | (with_reducible first | exact HB.out | apply below_alloc | apply pw_below_drewN | apply below_drew1 | refine below_set ?_ GE213.out | refine below_set ?_ GE214.out | refine below_set ?_ GE215.out) | exact HB.out)) hb); clear BK213; clear BK214; clear BK215; clear HB; have BK213 := n0_; have BK214 := n1_; have BK215 := n2_; have HB := n3_; clear n0_ n1_ n2_ n3_; (try clear hb); (try clear hb2); (try clear hk); (try clear hi)) | ((with_reducible refine gate_store (t := 27) (p := 4) rfl ?_); refine Arr.storeA ?hg (T := 27) (p := 4) (v := ?vo_w43) ?ho ?hn (g := gb214) (off := 0) ?hx (m := ((.bool false) :: (.slice none 0 0) :: Arr.arL .i8 (Vector.replicate 16 0 : Vector Int 16))) ?hy (t := 27) (pre := []) (old := ((.bool false) :: (.slice none 0 0) :: Arr.arL .i8 (Vector.replicate 16 0 : Vector Int 16))) (show w42.heap[gb214]? = some (.cells (⟨(.bool false) :: (.slice none 0 0) :: Arr.arL .i8 (Vector.replicate 16 0 : Vector Int 16)⟩ : Array Value) 27 (0, 0)) from by (with_reducible repeat (first | refine blk_drewN ?_ _ | refine blk_drew ?_ | refine blk_alloc ?_ _)); exact BK214.out) rfl (by simp [Arr.arL_length]) (n := 18) (by kernel_rfl) (by simp [Arr.arL_length]) (Arr.ones_2 rfl rfl) ?_; (case ho => rfl); (case hg => rfl); (case hn => rfl); (case hx => first | (go_simp; done) | rfl | (go_simp; rfl)); (case hy => first | (go_simp; done) | rfl | (go_simp; rfl)); intro w43 hbx hg hbe; replace hbx : w43.heap[gb214]? = some (.cells (⟨(.bool false) :: (.slice none 0 0) :: Arr.arL .i8 (Vector.replicate 16 0 : Vector Int 16)⟩ : Array Value) 27 (0, 0)) := hbx; have n0_ := Aside0.mk (blk_grown (g := gb213) (o := .cells (⟨Arr.arL .i8 a1_0⟩ : Array Value) 25 (0, 0)) (by (with_reducible repeat (first | refine blk_drewN ?_ _ | refine blk_drew ?_ | refine blk_alloc ?_ _)); exact BK213.out) hg (fun e_ => NB213_214.out (Option.some.inj e_))); have n1_ := Aside0.mk (hbx); have n2_ := Aside0.mk (blk_grown (g := gb215) (o := .cells (⟨(.bool false) :: (.slice none 0 0) :: Arr.arL .i8 (Vector.replicate 16 0 : Vector Int 16)⟩ : Array Value) 27 (0, 0)) (by (with_reducible repeat (first | refine blk_drewN ?_ _ | refine blk_drew ?_ | refine blk_alloc ?_ _)); exact BK215.out) hg (fun e_ => NB215_214.out (Option.some.inj e_))); have n3_ := Aside0.mk (hbe _ _ (by repeat (first | (with_reducible first | exact HB.out | apply below_alloc | apply pw_below_drewN | apply below_drew1 | refine below_set ?_ GE213.out | refine below_set ?_ GE214.out | refine below_set ?_ GE215.out) | exact HB.out)) GE214.out); clear BK213; clear BK214; clear BK215; clear HB; have BK213 := n0_; have BK214 := n1_; have BK215 := n2_; have HB := n3_; clear n0_ n1_ n2_ n3_; (try clear hbx hg hbe)) | ((with_reducible refine gate_store (t := 27) (p := 5) rfl ?_); refine Arr.storeA ?hg (T := 27) (p := 5) (v := ?vo_w44) ?ho ?hn (g := gb215) (off := 0) ?hx (m := ((.bool false) :: (.slice none 0 0) :: Arr.arL .i8 (Vector.replicate 16 0 : Vector Int 16))) ?hy (t := 27) (pre := []) (old := ((.bool false) :: (.slice none 0 0) :: Arr.arL .i8 (Vector.replicate 16 0 : Vector Int 16))) (show w43.heap[gb215]? = some (.cells (⟨(.bool false) :: (.slice none 0 0) :: Arr.arL .i8 (Vector.replicate 16 0 : Vector Int 16)⟩ : Array Value) 27 (0, 0)) from by (with_reducible repeat (first | refine blk_drewN ?_ _ | refine blk_drew ?_ | refine blk_alloc ?_ _)); exact BK215.out) rfl (by simp [Arr.arL_length]) (n := 18) (by kernel_rfl) (by simp [Arr.arL_length]) (Arr.ones_2 rfl rfl) ?_; (case ho => rfl); (case hg => rfl); (case hn => rfl); (case hx => first | (go_simp; done) | rfl | (go_simp; rfl)); (case hy => first | (go_simp; done) | rfl | (go_simp; rfl)); intro w44 hbx hg hbe; replace hbx : w44.heap[gb215]? = some (.cells (⟨(.bool false) :: (.slice none 0 0) :: Arr.arL .i8 (Vector.replicate 16 0 : Vector Int 16)⟩ : Array Value) 27 (0, 0)) := hbx; have n0_ := Aside0.mk (blk_grown (g := gb213) (o := .cells (⟨Arr.arL .i8 a1_0⟩ : Array Value) 25 (0, 0)) (by (with_reducible repeat (first | refine blk_drewN ?_ _ | refine blk_drew ?_ | refine blk_alloc ?_ _)); exact BK213.out) hg (fun e_ => NB213_215.out (Option.some.inj e_))); have n1_ := Aside0.mk (blk_grown (g := gb214) (o := .cells (⟨(.bool false) :: (.slice none 0 0) :: Arr.arL .i8 (Vector.replicate 16 0 : Vector Int 16)⟩ : Array Value) 27 (0, 0)) (by (with_reducible repeat (first | refine blk_drewN ?_ _ | refine blk_drew ?_ | refine blk_alloc ?_ _)); exact BK214.out) hg (fun e_ => NB214_215.out (Option.some.inj e_))); have n2_ := Aside0.mk (hbx); have n3_ := Aside0.mk (hbe _ _ (by repeat (first | (with_reducible first | exact HB.out | apply below_alloc | apply pw_below_drewN | apply below_drew1 | refine below_set ?_ GE213.out | refine below_set ?_ GE214.out | refine below_set ?_ GE215.out) | exact HB.out)) GE215.out); clear BK213; clear BK214; clear BK215; clear HB; have BK213 := n0_; have BK214 := n1_; have BK215 := n2_; have HB := n3_; clear n0_ n1_ n2_ n3_; (try clear hbx hg hbe)))
    refine bodyPost_ret (results_list (rs := [.cell 4 27, .cell 5 27, .tmp 6]) rfl (by simp) (.cell gb214 27 (⟨(.bool false) :: (.slice none 0 0) :: Arr.arL .i8 (Vector.replicate 16 0 : Vector Int 16)⟩ : Array Value) (0, 0) _ rfl (by (with_reducible repeat (first | refine blk_drewN ?_ _ | refine blk_drew ?_ | refine blk_alloc ?_ _)); exact BK214.out) Try.underlying27 rfl (by rw [show (Try.prog.info? 27).map (·.size) = some 18 from by kernel_rfl]; simp [Arr.arL_length]) (.cell gb215 27 (⟨(.bool false) :: (.slice none 0 0) :: Arr.arL .i8 (Vector.replicate 16 0 : Vector Int 16)⟩ : Array Value) (0, 0) _ rfl (by (with_reducible repeat (first | refine blk_drewN ?_ _ | refine blk_drew ?_ | refine blk_alloc ?_ _)); exact BK215.out) Try.underlying27 rfl (by rw [show (Try.prog.info? 27).map (·.size) = some 18 from by kernel_rfl]; simp [Arr.arL_length]) (.tmp .nil)))) rfl ?_
    exact ⟨_, _, by first | rfl | (simp [errW_none, errW_some] <;> rfl) | (simp [*, errW_none, errW_some] <;> rfl), by first | exact Kd.R_nil _ _ _ _ _ | exact Kd.N_nil _ _ _ _ _ | exact Kd.V_nil _ _ _ _ _ | exact Kd.Q_nil _ _ _ _ _ | exact Kd.S_nil _ _ _ _ _, by first | exact Kd.R_nil _ _ _ _ _ | exact Kd.N_nil _ _ _ _ _ | exact Kd.V_nil _ _ _ _ _ | exact Kd.Q_nil _ _ _ _ _ | exact Kd.S_nil _ _ _ _ _, by repeat (first | (with_reducible first | exact HB.out | apply below_alloc | apply pw_below_drewN | apply below_drew1 | refine below_set ?_ GE213.out | refine below_set ?_ GE214.out | refine below_set ?_ GE215.out) | exact HB.out)⟩

/-! ### laws_eqNotch: function 75 -/
def laws_eqNotch.f (a0_0 : Int) (a0_1 : Int) (a1_0 : Int) (a1_1 : Int) : Option (Bool) := if a0_0 = a1_0 then (if a0_1 = a1_1 then (some true) else (some false)) else (some false)
set_option maxHeartbeats 8000000 in
set_option maxRecDepth 100000 in
theorem laws_eqNotch.calls (a0_0 : Int) (a0_1 : Int) (a1_0 : Int) (a1_1 : Int) (r : Bool) (w : World) (h : laws_eqNotch.f a0_0 a0_1 a1_0 a1_1 = some r) :
    Calls Try.prog 75 #[.agg #[.int .i8 a0_0, .int .i16 a0_1], .agg #[.int .i8 a1_0, .int .i16 a1_1]] w fun e w' => e = .returned (.bool r) ∧ Below w.heap.size w w' := by
  have hu71 := Try.underlying71
  have HB := Aside0.mk (Below.refl w.heap.size w)
  have H : (if a0_0 = a1_0 then (if a0_1 = a1_1 then (some true) else (some false)) else (some false)) = some r := h
  clear h
  by_cases c3 : a0_0 = a1_0
  · rw [if_pos c3] at H
    have c3b0 : (a0_0 == a1_0) = true := beq_iff_eq.mpr c3
    have c3b1 : (a0_0 != a1_0) = false := bne_eq_false_iff_eq.mpr c3
    clear c3
    by_cases c4 : a0_1 = a1_1
    · rw [if_pos c4] at H
      have c4b0 : (a0_1 == a1_1) = true := beq_iff_eq.mpr c4
      have c4b1 : (a0_1 != a1_1) = false := bne_eq_false_iff_eq.mpr c4
      clear c4
      obtain rfl := Option.some.inj H
      go_enter Try.func75, Try.ntmps75
      go_wp2_with (first | ((with_reducible refine gate_dst (N := 2) rfl ?_); refine box_event ?hg (N := 2) ?hd (cs := #[.int .i8 a0_0, .int .i16 a0_1]) (t := 71) ?hr ?_; (case hd => rfl); (case hg => rfl); (case hr => first | (go_simp; done) | (go_simp; rfl)); intro gb225 hg w5 hbox hb; have n0_ := Aside0.mk (below_step (by repeat (first | (with_reducible first | exact HB.out | apply below_alloc | apply pw_below_drewN | apply below_drew1) | exact HB.out)) hb); have n1_ := Aside0.mk (hbox); have n2_ := Aside0.mk ((by rw [hg]; exact (below_size (by repeat (first | (with_reducible first | exact HB.out | apply below_alloc | apply pw_below_drewN | apply below_drew1) | exact HB.out))) : w.heap.size ≤ gb225)); have n3_ := Aside0.mk ((by rw [hg]; exact (below_size (by repeat (first | (with_reducible first | exact HB.out | apply below_alloc | apply pw_below_drewN | apply below_drew1) | exact HB.out))) : w.heap.size ≤ gb225)); clear HB; have HB := n0_; have BK225 := n1_; have GW225 := n2_; have GE225 := n3_; clear n0_ n1_ n2_ n3_; clear hb hbox hg) | ((with_reducible refine gate_dst (N := 3) rfl ?_); refine box_event ?hg (N := 3) ?hd (cs := #[.int .i8 a1_0, .int .i16 a1_1]) (t := 71) ?hr ?_; (case hd => rfl); (case hg => rfl); (case hr => first | (go_simp; done) | (go_simp; rfl)); intro gb226 hg w6 hbox hb; have n0_ := Aside0.mk (blk_below (g := gb225) (o := .cells #[.int .i8 a0_0, .int .i16 a0_1] 71 (0, 0)) (by (with_reducible repeat (first | refine blk_drewN ?_ _ | refine blk_drew ?_ | refine blk_alloc ?_ _)); exact BK225.out) hb); have n1_ := Aside0.mk (below_step (by repeat (first | (with_reducible first | exact HB.out | apply below_alloc | apply pw_below_drewN | apply below_drew1 | refine below_set ?_ GE225.out) | exact HB.out)) hb); have n2_ := Aside0.mk (hbox); have n3_ := Aside0.mk ((by rw [hg]; exact (below_size (by repeat (first | (with_reducible first | exact HB.out | apply below_alloc | apply pw_below_drewN | apply below_drew1 | refine below_set ?_ GE225.out) | exact HB.out))) : w.heap.size ≤ gb226)); have n4_ := Aside0.mk ((by rw [hg]; exact (below_size (by repeat (first | (with_reducible first | exact HB.out | apply below_alloc | apply pw_below_drewN | apply below_drew1 | refine below_set ?_ GE225.out) | exact HB.out))) : w.heap.size ≤ gb226)); have n5_ := Aside0.mk ((by rw [hg]; exact Nat.ne_of_lt (blk_lt (g := gb225) (o := .cells #[.int .i8 a0_0, .int .i16 a0_1] 71 (0, 0)) (by (with_reducible repeat (first | refine blk_drewN ?_ _ | refine blk_drew ?_ | refine blk_alloc ?_ _)); exact BK225.out)) : gb225 ≠ gb226)); have n6_ := Aside0.mk ((by rw [hg]; exact Nat.ne_of_gt (blk_lt (g := gb225) (o := .cells #[.int .i8 a0_0, .int .i16 a0_1] 71 (0, 0)) (by (with_reducible repeat (first | refine blk_drewN ?_ _ | refine blk_drew ?_ | refine blk_alloc ?_ _)); exact BK225.out)) : gb226 ≠ gb225)); clear BK225; clear HB; have BK225 := n0_; have HB := n1_; have BK226 := n2_; have GW226 := n3_; have GE226 := n4_; have NB225_226 := n5_; have NB226_225 := n6_; clear n0_ n1_ n2_ n3_ n4_ n5_ n6_; clear hb hbox hg; have hnb7 := NB225_226.out; have hnc7 := NB226_225.out; have hcz8_0 : w6.cell? ⟨gb225, 0, none⟩ = some (.int .i8 a0_0) := (blk_cell BK225.out 0).trans rfl; have hcz8_1 : w6.cell? ⟨gb225, 1, none⟩ = some (.int .i16 a0_1) := (blk_cell BK225.out 1).trans rfl; have hfz8_0 := blk_frozen BK225.out 0; have hfz8_1 := blk_frozen BK225.out 1; have hcz9_0 : w6.cell? ⟨gb226, 0, none⟩ = some (.int .i8 a1_0) := (blk_cell BK226.out 0).trans rfl; have hcz9_1 : w6.cell? ⟨gb226, 1, none⟩ = some (.int .i16 a1_1) := (blk_cell BK226.out 1).trans rfl; have hfz9_0 := blk_frozen BK226.out 0; have hfz9_1 := blk_frozen BK226.out 1))
      go_ret
      exact ⟨by first | rfl | (simp [errW_none, errW_some] <;> rfl) | (simp [*, errW_none, errW_some] <;> rfl), by repeat (first | (with_reducible first | exact HB.out | apply below_alloc | apply pw_below_drewN | apply below_drew1 | refine below_set ?_ GE225.out | refine below_set ?_ GE226.out) | exact HB.out)⟩
    · rw [if_neg c4] at H
      have c4b0 : (a0_1 == a1_1) = false := beq_eq_false_iff_ne.mpr c4
      have c4b1 : (a0_1 != a1_1) = true := bne_iff_ne.mpr c4
      obtain rfl := Option.some.inj H
      go_enter Try.func75, Try.ntmps75
      go_wp2_with (first | ((with_reducible refine gate_dst (N := 2) rfl ?_); refine box_event ?hg (N := 2) ?hd (cs := #[.int .i8 a0_0, .int .i16 a0_1]) (t := 71) ?hr ?_; (case hd => rfl); (case hg => rfl); (case hr => first | (go_simp; done) | (go_simp; rfl)); intro gb225 hg w10 hbox hb; have n0_ := Aside0.mk (below_step (by repeat (first | (with_reducible first | exact HB.out | apply below_alloc | apply pw_below_drewN | apply below_drew1) | exact HB.out)) hb); have n1_ := Aside0.mk (hbox); have n2_ := Aside0.mk ((by rw [hg]; exact (below_size (by repeat (first | (with_reducible first | exact HB.out | apply below_alloc | apply pw_below_drewN | apply below_drew1) | exact HB.out))) : w.heap.size ≤ gb225)); have n3_ := Aside0.mk ((by rw [hg]; exact (below_size (by repeat (first | (with_reducible first | exact HB.out | apply below_alloc | apply pw_below_drewN | apply below_drew1) | exact HB.out))) : w.heap.size ≤ gb225)); clear HB; have HB := n0_; have BK225 := n1_; have GW225 := n2_; have GE225 := n3_; clear n0_ n1_ n2_ n3_; clear hb hbox hg) | ((with_reducible refine gate_dst (N := 3) rfl ?_); refine box_event ?hg (N := 3) ?hd (cs := #[.int .i8 a1_0, .int .i16 a1_1]) (t := 71) ?hr ?_; (case hd => rfl); (case hg => rfl); (case hr => first | (go_simp; done) | (go_simp; rfl)); intro gb226 hg w11 hbox hb; have n0_ := Aside0.mk (blk_below (g := gb225) (o := .cells #[.int .i8 a0_0, .int .i16 a0_1] 71 (0, 0)) (by (with_reducible repeat (first | refine blk_drewN ?_ _ | refine blk_drew ?_ | refine blk_alloc ?_ _)); exact BK225.out) hb); have n1_ := Aside0.mk (below_step (by repeat (first | (with_reducible first | exact HB.out | apply below_alloc | apply pw_below_drewN | apply below_drew1 | refine below_set ?_ GE225.out) | exact HB.out)) hb); have n2_ := Aside0.mk (hbox); have n3_ := Aside0.mk ((by rw [hg]; exact (below_size (by repeat (first | (with_reducible first | exact HB.out | apply below_alloc | apply pw_below_drewN | apply below_drew1 | refine below_set ?_ GE225.out) | exact HB.out))) : w.heap.size ≤ gb226)); have n4_ := Aside0.mk ((by rw [hg]; exact (below_size (by repeat (first | (with_reducible first | exact HB.out | apply below_alloc | apply pw_below_drewN | apply below_drew1 | refine below_set ?_ GE225.out) | exact HB.out))) : w.heap.size ≤ gb226)); have n5_ := Aside0.mk ((by rw [hg]; exact Nat.ne_of_lt (blk_lt (g := gb225) (o := .cells #[.int .i8 a0_0, .int .i16 a0_1] 71 (0, 0)) (by (with_reducible repeat (first | refine blk_drewN ?_ _ | refine blk_drew ?_ | refine blk_alloc ?_ _)); exact BK225.out)) : gb225 ≠ gb226)); have n6_ := Aside0.mk ((by rw [hg]; exact Nat.ne_of_gt (blk_lt (g := gb225) (o := .cells #[.int .i8 a0_0, .int .i16 a0_1] 71 (0, 0)) (by (with_reducible repeat (first | refine blk_drewN ?_ _ | refine blk_drew ?_ | refine blk_alloc ?_ _)); exact BK225.out)) : gb226 ≠ gb225)); clear BK225; clear HB; have BK225 := n0_; have HB := n1_; have BK226 := n2_; have GW226 := n3_; have GE226 := n4_; have NB225_226 := n5_; have NB226_225 := n6_; clear n0_ n1_ n2_ n3_ n4_ n5_ n6_; clear hb hbox hg; have hnb12 := NB225_226.out; have hnc12 := NB226_225.out; have hcz13_0 : w11.cell? ⟨gb225, 0, none⟩ = some (.int .i8 a0_0) := (blk_cell BK225.out 0).trans rfl; have hcz13_1 : w11.cell? ⟨gb225, 1, none⟩ = some (.int .i16 a0_1) := (blk_cell BK225.out 1).trans rfl; have hfz13_0 := blk_frozen BK225.out 0; have hfz13_1 := blk_frozen BK225.out 1; have hcz14_0 : w11.cell? ⟨gb226, 0, none⟩ = some (.int .i8 a1_0) := (blk_cell BK226.out 0).trans rfl; have hcz14_1 : w11.cell? ⟨gb226, 1, none⟩ = some (.int .i16 a1_1) := (blk_cell BK226.out 1).trans rfl; have hfz14_0 := blk_frozen BK226.out 0; have hfz14_1 := blk_frozen BK226.out 1))
      go_ret
      exact ⟨by first | rfl | (simp [errW_none, errW_some] <;> rfl) | (simp [*, errW_none, errW_some] <;> rfl), by repeat (first | (with_reducible first | exact HB.out | apply below_alloc | apply pw_below_drewN | apply below_drew1 | refine below_set ?_ GE225.out | refine below_set ?_ GE226.out) | exact HB.out)⟩
  · rw [if_neg c3] at H
    have c3b0 : (a0_0 == a1_0) = false := beq_eq_false_iff_ne.mpr c3
    have c3b1 : (a0_0 != a1_0) = true := bne_iff_ne.mpr c3
    obtain rfl := Option.some.inj H
    go_enter Try.func75, Try.ntmps75
    go_wp2_with (first | ((with_reducible refine gate_dst (N := 2) rfl ?_); refine box_event ?hg (N := 2) ?hd (cs := #[.int .i8 a0_0, .int .i16 a0_1]) (t := 71) ?hr ?_; (case hd => rfl); (case hg => rfl); (case hr => first | (go_simp; done) | (go_simp; rfl)); intro gb225 hg w15 hbox hb; have n0_ := Aside0.mk (below_step (by repeat (first | (with_reducible first | exact HB.out | apply below_alloc | apply pw_below_drewN | apply below_drew1) | exact HB.out)) hb); have n1_ := Aside0.mk (hbox); have n2_ := Aside0.mk ((by rw [hg]; exact (below_size (by repeat (first | (with_reducible first | exact HB.out | apply below_alloc | apply pw_below_drewN | apply below_drew1) | exact HB.out))) : w.heap.size ≤ gb225)); have n3_ := Aside0.mk ((by rw [hg]; exact (below_size (by repeat (first | (with_reducible first | exact HB.out | apply below_alloc | apply pw_below_drewN | apply below_drew1) | exact HB.out))) : w.heap.size ≤ gb225)); clear HB; have HB := n0_; have BK225 := n1_; have GW225 := n2_; have GE225 := n3_; clear n0_ n1_ n2_ n3_; clear hb hbox hg) | ((with_reducible refine gate_dst (N := 3) rfl ?_); refine box_event ?hg (N := 3) ?hd (cs := #[.int .i8 a1_0, .int .i16 a1_1]) (t := 71) ?hr ?_; (case hd => rfl); (case hg => rfl); (case hr => first | (go_simp; done) | (go_simp; rfl)); intro gb226 hg w16 hbox hb; have n0_ := Aside0.mk (blk_below (g := gb225) (o := .cells #[.int .i8 a0_0, .int .i16 a0_1] 71 (0, 0)) (by (with_reducible repeat (first | refine blk_drewN ?_ _ | refine blk_drew ?_ | refine blk_alloc ?_ _)); exact BK225.out) hb); have n1_ := Aside0.mk (below_step (by repeat (first | (with_reducible first | exact HB.out | apply below_alloc | apply pw_below_drewN | apply below_drew1 | refine below_set ?_ GE225.out) | exact HB.out)) hb); have n2_ := Aside0.mk (hbox); have n3_ := Aside0.mk ((by rw [hg]; exact (below_size (by repeat (first | (with_reducible first | exact HB.out | apply below_alloc | apply pw_below_drewN | apply below_drew1 | refine below_set ?_ GE225.out) | exact HB.out))) : w.heap.size ≤ gb226)); have n4_ := Aside0.mk ((by rw [hg]; exact (below_size (by repeat (first | (with_reducible first | exact HB.out | apply below_alloc | apply pw_below_drewN | apply below_drew1 | refine below_set ?_ GE225.out) | exact HB.out))) : w.heap.size ≤ gb226)); have n5_ := Aside0.mk ((by rw [hg]; exact Nat.ne_of_lt (blk_lt (g := gb225) (o := .cells #[.int .i8 a0_0, .int .i16 a0_1] 71 (0, 0)) (by (with_reducible repeat (first | refine blk_drewN ?_ _ | refine blk_drew ?_ | refine blk_alloc ?_ _)); exact BK225.out)) : gb225 ≠ gb226)); have n6_ := Aside0.mk ((by rw [hg]; exact Nat.ne_of_gt (blk_lt (g := gb225) (o := .cells #[.int .i8 a0_0, .int .i16 a0_1] 71 (0, 0)) (by (with_reducible repeat (first | refine blk_drewN ?_ _ | refine blk_drew ?_ | refine blk_alloc ?_ _)); exact BK225.out)) : gb226 ≠ gb225)); clear BK225; clear HB; have BK225 := n0_; have HB := n1_; have BK226 := n2_; have GW226 := n3_; have GE226 := n4_; have NB225_226 := n5_; have NB226_225 := n6_; clear n0_ n1_ n2_ n3_ n4_ n5_ n6_; clear hb hbox hg; have hnb17 := NB225_226.out; have hnc17 := NB226_225.out; have hcz18_0 : w16.cell? ⟨gb225, 0, none⟩ = some (.int .i8 a0_0) := (blk_cell BK225.out 0).trans rfl; have hcz18_1 : w16.cell? ⟨gb225, 1, none⟩ = some (.int .i16 a0_1) := (blk_cell BK225.out 1).trans rfl; have hfz18_0 := blk_frozen BK225.out 0; have hfz18_1 := blk_frozen BK225.out 1; have hcz19_0 : w16.cell? ⟨gb226, 0, none⟩ = some (.int .i8 a1_0) := (blk_cell BK226.out 0).trans rfl; have hcz19_1 : w16.cell? ⟨gb226, 1, none⟩ = some (.int .i16 a1_1) := (blk_cell BK226.out 1).trans rfl; have hfz19_0 := blk_frozen BK226.out 0; have hfz19_1 := blk_frozen BK226.out 1))
    go_ret
    exact ⟨by first | rfl | (simp [errW_none, errW_some] <;> rfl) | (simp [*, errW_none, errW_some] <;> rfl), by repeat (first | (with_reducible first | exact HB.out | apply below_alloc | apply pw_below_drewN | apply below_drew1 | refine below_set ?_ GE225.out | refine below_set ?_ GE226.out) | exact HB.out)⟩

end Go.Proofs.Ytcblnnfodpglaaa.MCutStick
