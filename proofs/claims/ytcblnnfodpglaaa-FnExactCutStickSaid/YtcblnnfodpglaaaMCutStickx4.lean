-- by a program of this session, for this claim
import Derived.Test.YtcblnnfodpglaaaMCutStickx0
namespace Go.Proofs.Ytcblnnfodpglaaa.MCutStick
open Go.RowKit Go.Proofs.YtcblnnfodpglaaaW.PrintWords Go.Proofs.YtcblnnfodpglaaaW.PrintLast Go.Proofs.YtcblnnfodpglaaaW.PrintMore
attribute [local go_sem] max2_int min2_int max_two min_two max_three min_three max_four min_four   -- for this text's walks alone
set_option linter.unusedVariables false
set_option linter.unusedSimpArgs false

/-! ### impl_ValidGrain: function 39 -/
def impl_ValidGrain.l0 : Nat → Int → Vector Int 16 → Option (Bool)
  | 0, _, _ => none
  | k + 1, x6, x501 => if x6 < 16 then (if 0 ≤ x6 then (if (Arr.vrd x501 x6) < (-3) then (some false) else (if (Arr.vrd x501 x6) > 3 then (some false) else (impl_ValidGrain.l0 k (wrap64 (x6 + 1)) x501))) else (none)) else (some true)
def impl_ValidGrain.f (k : Nat) (a0_0 : Vector Int 16) : Option (Bool) := impl_ValidGrain.l0 k 0 a0_0
theorem impl_ValidGrain.mono_l : ∀ k, (∀ y0 y1, LeO (impl_ValidGrain.l0 k y0 y1) (impl_ValidGrain.l0 (k + 1) y0 y1))
  | 0 => fun _ _ r h => by simp [impl_ValidGrain.l0] at h
  | k + 1 => by
    have ih0 := impl_ValidGrain.mono_l k
    · intro y0 y1
      unfold impl_ValidGrain.l0
      repeat' first
      | (with_reducible exact ih0 _ _)
      | (with_reducible exact LeO.refl _)
      | (with_reducible exact LeO.none _)
      | (with_reducible refine LeO.ite ?_ ?_)
      | (with_reducible refine LeO.bind ?_ (fun _ => ?_))
      | exact ih0 _ _
      | exact LeO.none _
      | refine LeO.ite ?_ ?_
      | refine LeO.bind ?_ (fun _ => ?_)
theorem impl_ValidGrain.mono : ∀ a0 k, LeO (impl_ValidGrain.f k a0) (impl_ValidGrain.f (k + 1) a0) := by
  intro a0 k
  have ih0 := impl_ValidGrain.mono_l k
  unfold impl_ValidGrain.f
  repeat' first
      | (with_reducible exact ih0 _ _)
      | (with_reducible exact LeO.refl _)
      | (with_reducible exact LeO.none _)
      | (with_reducible refine LeO.ite ?_ ?_)
      | (with_reducible refine LeO.bind ?_ (fun _ => ?_))
      | exact ih0 _ _
      | exact LeO.none _
      | refine LeO.ite ?_ ?_
      | refine LeO.bind ?_ (fun _ => ?_)
set_option maxHeartbeats 8000000 in
set_option maxRecDepth 100000 in
theorem impl_ValidGrain.calls (k : Nat) (a0_0 : Vector Int 16) (r : Bool) (w : World) (h : impl_ValidGrain.f k a0_0 = some r) :
    Calls Try.prog 39 #[.agg (⟨Arr.arL .i8 a0_0⟩ : Array Value)] w fun e w' => e = .returned (.bool r) ∧ Below w.heap.size w w' := by
  have hu25 := Try.underlying25
  have HB := Aside0.mk (Below.refl w.heap.size w)
  have H : (impl_ValidGrain.l0 k 0 a0_0) = some r := h
  clear h
  have H' := Aside0.mk H
  clear H
  go_enter Try.func39, Try.ntmps39
  go_wp2_with (first | ((with_reducible refine gate_dst (N := 1) rfl ?_); refine box_event ?hg (N := 1) ?hd (cs := (⟨Arr.arL .i8 a0_0⟩ : Array Value)) (t := 25) ?hr ?_; (case hd => rfl); (case hg => rfl); (case hr => first | (go_simp; done) | (go_simp; rfl)); intro gb173 hg w3 hbox hb; have n0_ := Aside0.mk (below_step (by repeat (first | (with_reducible first | exact HB.out | apply below_alloc | apply pw_below_drewN | apply below_drew1) | exact HB.out)) hb); have n1_ := Aside0.mk (hbox); have n2_ := Aside0.mk ((by rw [hg]; exact (below_size (by repeat (first | (with_reducible first | exact HB.out | apply below_alloc | apply pw_below_drewN | apply below_drew1) | exact HB.out))) : w.heap.size ≤ gb173)); have n3_ := Aside0.mk ((by rw [hg]; exact (below_size (by repeat (first | (with_reducible first | exact HB.out | apply below_alloc | apply pw_below_drewN | apply below_drew1) | exact HB.out))) : w.heap.size ≤ gb173)); clear HB; have HB := n0_; have BK173 := n1_; have GW173 := n2_; have GE173 := n3_; clear n0_ n1_ n2_ n3_; clear hb hbox hg) | ((with_reducible refine Arr.gate_load (t := 25) (p := 1) rfl ?_); (try (refine gate_guard (by rfl) ?_; dsimp only)); refine Arr.loadA ?hg (T := 25) (p := 1) ?ho (g := gb173) (off := 0) ?hx (t := 25) (l := (Arr.arL .i8 a0_0)) (m := (Arr.arL .i8 a0_0)) (fr := (0, 0)) (show w3.heap[gb173]? = some (.cells (⟨Arr.arL .i8 a0_0⟩ : Array Value) 25 (0, 0)) from by (with_reducible repeat (first | refine blk_drewN ?_ _ | refine blk_drew ?_ | refine blk_alloc ?_ _)); exact BK173.out) rfl Try.underlying25 rfl (n := 16) (by kernel_rfl) (by simp [Arr.arL_length]) ?_; (case hg => rfl); (case ho => rfl); (case hx => first | (go_simp; done) | rfl | (go_simp; rfl))))
  go_loopg [6] k (fun kq v6 w' => ∃ (x6_1 : Int), v6 = .int .i64 x6_1 ∧ Aside0 (impl_ValidGrain.l0 kq x6_1 a0_0 = some r) ∧ Aside0 (kq ≤ k) ∧ Aside0 (w'.heap[gb173]? = some (.cells (⟨Arr.arL .i8 a0_0⟩ : Array Value) 25 (0, 0))) ∧ Aside0 (Below w.heap.size w w'))
  case atStart => exact ⟨(0), (by first | rfl | (simp; done) | (simp [*]; done)), H', ⟨Nat.le_refl _⟩, ⟨by (with_reducible repeat (first | refine blk_drewN ?_ _ | refine blk_drew ?_ | refine blk_alloc ?_ _)); exact BK173.out⟩, ⟨by repeat (first | (with_reducible first | exact HB.out | apply below_alloc | apply pw_below_drewN | apply below_drew1 | refine below_set ?_ GE173.out) | exact HB.out)⟩⟩
  case round =>
    clear H'
    try clear p2
    try clear c3
    obtain ⟨x6_1, rfl, HA, HK1, BK173, HB⟩ := hrel
    cases gk with
    | zero => exact absurd HA.out (by simp [impl_ValidGrain.l0])
    | succ k1 =>
      have H := HA.out
      clear HA
      simp only [impl_ValidGrain.l0] at H
      by_cases c4 : x6_1 < 16
      · rw [if_pos c4] at H
        have c4b0 : decide (x6_1 < 16) = true := decide_eq_true c4
        clear c4
        by_cases c5 : 0 ≤ x6_1
        · rw [if_pos c5] at H
          have c5b0 : decide (0 ≤ x6_1) = true := decide_eq_true c5
          clear c5
          by_cases c7 : (Arr.vrd a0_0 x6_1) < (-3)
          · rw [if_pos c7] at H
            have c7b0 : decide ((Arr.vrd a0_0 x6_1) < (-3)) = true := decide_eq_true c7
            clear c7
            obtain rfl := Option.some.inj H
            have hx6 := fun W_ => Arr.index_arr (P := Try.prog) (w := W_) Try.underlying25 Try.underlying22 (by kernel_rfl) (by kernel_rfl) a0_0 x6_1 .i64 (of_decide_eq_true (by first | (with_reducible assumption) | assumption)) (of_decide_eq_true (by first | (with_reducible assumption) | assumption))
            have p6 : 0 ≤ (x6_1 : Int) := of_decide_eq_true (by first | (with_reducible assumption) | assumption)
            have q6 : (x6_1 : Int) < 16 := of_decide_eq_true (by first | (with_reducible assumption) | assumption)
            replace p6 := eq_true p6
            replace q6 := eq_true q6
            go_wp2
            go_ret
            exact ⟨by first | rfl | (simp [errW_none, errW_some] <;> rfl) | (simp [*, errW_none, errW_some] <;> rfl), by repeat (first | (with_reducible first | exact HB.out | apply below_alloc | apply pw_below_drewN | apply below_drew1 | refine below_set ?_ GE173.out) | exact HB.out)⟩
          · rw [if_neg c7] at H
            have c7b0 : decide ((Arr.vrd a0_0 x6_1) < (-3)) = false := decide_eq_false c7
            clear c7
            by_cases c8 : (Arr.vrd a0_0 x6_1) > 3
            · rw [if_pos c8] at H
              have c8b0 : decide (3 < (Arr.vrd a0_0 x6_1)) = true := decide_eq_true c8
              clear c8
              obtain rfl := Option.some.inj H
              have hx6 := fun W_ => Arr.index_arr (P := Try.prog) (w := W_) Try.underlying25 Try.underlying22 (by kernel_rfl) (by kernel_rfl) a0_0 x6_1 .i64 (of_decide_eq_true (by first | (with_reducible assumption) | assumption)) (of_decide_eq_true (by first | (with_reducible assumption) | assumption))
              have p6 : 0 ≤ (x6_1 : Int) := of_decide_eq_true (by first | (with_reducible assumption) | assumption)
              have q6 : (x6_1 : Int) < 16 := of_decide_eq_true (by first | (with_reducible assumption) | assumption)
              replace p6 := eq_true p6
              replace q6 := eq_true q6
              go_wp2
              go_ret
              exact ⟨by first | rfl | (simp [errW_none, errW_some] <;> rfl) | (simp [*, errW_none, errW_some] <;> rfl), by repeat (first | (with_reducible first | exact HB.out | apply below_alloc | apply pw_below_drewN | apply below_drew1 | refine below_set ?_ GE173.out) | exact HB.out)⟩
            · rw [if_neg c8] at H
              have c8b0 : decide (3 < (Arr.vrd a0_0 x6_1)) = false := decide_eq_false c8
              clear c8
              have H' := Aside0.mk H
              clear H
              have hx6 := fun W_ => Arr.index_arr (P := Try.prog) (w := W_) Try.underlying25 Try.underlying22 (by kernel_rfl) (by kernel_rfl) a0_0 x6_1 .i64 (of_decide_eq_true (by first | (with_reducible assumption) | assumption)) (of_decide_eq_true (by first | (with_reducible assumption) | assumption))
              have p6 : 0 ≤ (x6_1 : Int) := of_decide_eq_true (by first | (with_reducible assumption) | assumption)
              have q6 : (x6_1 : Int) < 16 := of_decide_eq_true (by first | (with_reducible assumption) | assumption)
              replace p6 := eq_true p6
              replace q6 := eq_true q6
              go_wp2
              go_roundg k1
              case measure => have := HK1.out; omega
              case rel => exact ⟨(wrap64 (x6_1 + 1)), (by first | rfl | (simp; done) | (simp [*]; done)), H', ⟨by have := HK1.out; omega⟩, ⟨by (with_reducible repeat (first | refine blk_drewN ?_ _ | refine blk_drew ?_ | refine blk_alloc ?_ _)); exact BK173.out⟩, ⟨by repeat (first | (with_reducible first | exact HB.out | apply below_alloc | apply pw_below_drewN | apply below_drew1 | refine below_set ?_ GE173.out) | exact HB.out)⟩⟩
        · rw [if_neg c5] at H
          exact absurd H (by simp)
      · rw [if_neg c4] at H
        have c4b0 : decide (x6_1 < 16) = false := decide_eq_false c4
        clear c4
        obtain rfl := Option.some.inj H
        go_wp2
        go_ret
        exact ⟨by first | rfl | (simp [errW_none, errW_some] <;> rfl) | (simp [*, errW_none, errW_some] <;> rfl), by repeat (first | (with_reducible first | exact HB.out | apply below_alloc | apply pw_below_drewN | apply below_drew1 | refine below_set ?_ GE173.out) | exact HB.out)⟩

/-! ### impl_isKind: function 56 -/
def impl_isKind.f (a0 : Int) : Option (Bool) := if a0 ≥ 0 then (some (decide (a0 ≤ 5))) else (some false)
set_option maxHeartbeats 8000000 in
set_option maxRecDepth 100000 in
theorem impl_isKind.calls (a0 : Int) (r : Bool) (w : World) (h : impl_isKind.f a0 = some r) :
    Calls Try.prog 56 #[.int .i64 a0] w fun e w' => e = .returned (.bool r) ∧ Drawn0 w w' := by
  have H : (if a0 ≥ 0 then (some (decide (a0 ≤ 5))) else (some false)) = some r := h
  clear h
  by_cases c2 : a0 ≥ 0
  · rw [if_pos c2] at H
    have c2b0 : decide (0 ≤ a0) = true := decide_eq_true c2
    clear c2
    obtain rfl := Option.some.inj H
    go_enter Try.func56, Try.ntmps56
    go_wp2
    go_ret
    exact ⟨by first | rfl | (simp; done) | (simp [*]; done), by repeat (first | exact Drawn0.refl _ | apply Drawn0.step)⟩
  · rw [if_neg c2] at H
    have c2b0 : decide (0 ≤ a0) = false := decide_eq_false c2
    clear c2
    obtain rfl := Option.some.inj H
    go_enter Try.func56, Try.ntmps56
    go_wp2
    go_ret
    exact ⟨by first | rfl | (simp; done) | (simp [*]; done), by repeat (first | exact Drawn0.refl _ | apply Drawn0.step)⟩

/-! ### impl_width: function 74 -/
def impl_width.f (a0 : Int) : Option (Int) := (some (([1, 2, 4, 6, 9, 12] : List Int) : List Int)).bind fun y174 => (if 0 ≤ a0 then (if a0 < (y174.length : Int) then (some (rd y174 a0)) else (none)) else (none))
set_option maxHeartbeats 8000000 in
set_option maxRecDepth 100000 in
theorem impl_width.calls (a0 : Int) (r : Int) (w : World) (h : impl_width.f a0 = some r) :
    Calls Try.prog 74 #[.int .i64 a0] w fun e w' => e = .returned (.int .i64 r) ∧ Below w.heap.size w w' := by
  have HB := Aside0.mk (Below.refl w.heap.size w)
  have H : ((some (([1, 2, 4, 6, 9, 12] : List Int) : List Int)).bind fun y174 => (if 0 ≤ a0 then (if a0 < (y174.length : Int) then (some (rd y174 a0)) else (none)) else (none))) = some r := h
  clear h
  obtain ⟨y174, hy174⟩ : ∃ y_ : List Int, y_ = (([1, 2, 4, 6, 9, 12] : List Int)) := ⟨_, rfl⟩
  replace H : (if 0 ≤ a0 then (if a0 < (y174.length : Int) then (some (rd y174 a0)) else (none)) else (none)) = some r := by first | (rw [hy174]; with_reducible exact H) | (have H2_ := (Option.bind_some _ _).symm.trans H; rw [hy174]; with_reducible exact H2_) | (have H2_ := (Option.bind_some _ _).symm.trans H; with_reducible exact H2_) | with_reducible exact H | (rw [hy174]; exact H) | exact H
  have Ny174 := Aside0.mk hy174
  clear hy174
  by_cases c2 : 0 ≤ a0
  · rw [if_pos c2] at H
    have c2b0 : decide (0 ≤ a0) = true := decide_eq_true c2
    clear c2
    by_cases c3 : a0 < (y174.length : Int)
    · rw [if_pos c3] at H
      have c3b0 : decide (a0 < (y174.length : Int)) = true := decide_eq_true c3
      clear c3
      obtain rfl := Option.some.inj H
      go_enter Try.func74, Try.ntmps74
      go_wp2_with (first | ((with_reducible refine gate_dst (N := 3) rfl ?_); refine Kd.R_lit (Kd.int .i64) _ 2 ?hg (N := 3) ?hd (xs := ([1, 2, 4, 6, 9, 12] : List Int)) (inner := [.int .i64 1, .int .i64 2, .int .i64 4, .int .i64 6, .int .i64 9, .int .i64 12]) (ok := fun _ => True) (okp := fun _ => True) ?hr ?hp (fun _ hk => hk) trivial (Below.refl _ _) (Nat.le_refl _) (by simp) ?_; (case hd => rfl); (case hg => rfl); (case hr => first | (go_simp; done) | (go_simp; rfl)); (case hp => exact (Reps.one (show Kd.M (Kd.int .i64) _ _ _ 1 [.int .i64 1] from rfl) (Reps.one (show Kd.M (Kd.int .i64) _ _ _ 2 [.int .i64 2] from rfl) (Reps.one (show Kd.M (Kd.int .i64) _ _ _ 4 [.int .i64 4] from rfl) (Reps.one (show Kd.M (Kd.int .i64) _ _ _ 6 [.int .i64 6] from rfl) (Reps.one (show Kd.M (Kd.int .i64) _ _ _ 9 [.int .i64 9] from rfl) (Reps.one (show Kd.M (Kd.int .i64) _ _ _ 12 [.int .i64 12] from rfl) (Reps.none _ _)))))))); intro v175 w4 ho5 hb hg_ hnew_; clear hg_ hnew_; (first | rw [← Ny174.out] at ho5 | (simp only [Int.reduceToNat] at ho5; rw [← Ny174.out] at ho5)); have n0_ := Aside0.mk (Kd.R_lower ho5 (below_size (by repeat (first | (with_reducible first | exact HB.out | apply below_alloc | apply pw_below_drewN | apply below_drew1) | exact HB.out)))); have n1_ := Aside0.mk (below_step (by repeat (first | (with_reducible first | exact HB.out | apply below_alloc | apply pw_below_drewN | apply below_drew1) | exact HB.out)) hb); clear HB; have HO176 := n0_; have HB := n1_; clear n0_ n1_; clear hb ho5; obtain ⟨Ao6, co6, eo6⟩ := Kd.R_slice HO176.out; subst eo6; have p177 : 0 ≤ (a0 : Int) := of_decide_eq_true (by first | (with_reducible assumption) | assumption); have q177 : a0 < (y174.length : Int) := of_decide_eq_true (by first | (with_reducible assumption) | assumption); obtain ⟨ad177, e177, hx177_0⟩ := Kd.at_int (Kd.R_reads' HO176.out).2.2 a0 p177 q177; cases e177; replace p177 := eq_true p177; replace q177 := eq_true q177))
      go_ret
      exact ⟨by first | rfl | (simp [errW_none, errW_some] <;> rfl) | (simp [*, errW_none, errW_some] <;> rfl), by repeat (first | (with_reducible first | exact HB.out | apply below_alloc | apply pw_below_drewN | apply below_drew1) | exact HB.out)⟩
    · rw [if_neg c3] at H
      exact absurd H (by simp)
  · rw [if_neg c2] at H
    exact absurd H (by simp)

/-! ### impl_Notch_end: function 57 -/
def impl_Notch_end.f (a0_0 : Int) (a0_1 : Int) : Option (Int) := (impl_width.f (wrap64 (a0_0))).bind fun t179 => (some (wrap64 ((wrap64 (a0_1)) + t179)))
def impl_Notch_end.T1 : Bool × List (List Nat × List Nat) := (true, [([], []), ([0], [0]), ([1], [1]), ([], []), ([3], [3]), ([4], [4]), ([5], [5]), ([2, 6], [2, 6]), ([7, 6, 0, 1, 2, 3, 4, 5, 6, 7], [7])])
def impl_Notch_end.B1 : List Nat := [0, 1, 3, 0, 8, 24, 56, 127, 255]
theorem impl_Notch_end.tab1 : rtab .any (opsOf Try.f57 1) = impl_Notch_end.T1 := by kernel_rfl
theorem impl_Notch_end.bits1 : waitsOk impl_Notch_end.T1.2 impl_Notch_end.B1 = true := by kernel_rfl
set_option maxHeartbeats 8000000 in
set_option maxRecDepth 100000 in
theorem impl_Notch_end.calls (a0_0 : Int) (a0_1 : Int) (r : Int) (w : World) (h : impl_Notch_end.f a0_0 a0_1 = some r) :
    Calls Try.prog 57 #[.agg #[.int .i8 a0_0, .int .i16 a0_1]] w fun e w' => e = .returned (.int .i64 r) ∧ Below w.heap.size w w' := by
  have hu71 := Try.underlying71
  have HB := Aside0.mk (Below.refl w.heap.size w)
  have H : ((impl_width.f (wrap64 (a0_0))).bind fun t179 => (some (wrap64 ((wrap64 (a0_1)) + t179)))) = some r := h
  clear h
  replace H := Option.bind_eq_some_iff.mp H
  obtain ⟨t179, A20, H⟩ := H
  replace H : (some (wrap64 ((wrap64 (a0_1)) + t179))) = some r := H
  have A2 := Aside0.mk A20
  clear A20
  obtain rfl := Option.some.inj H
  go_enter Try.func57, Try.ntmps57
  try go_wp2_with (first | ((with_reducible refine gate_dst (N := 1) rfl ?_); refine box_event ?hg (N := 1) ?hd (cs := #[.int .i8 a0_0, .int .i16 a0_1]) (t := 71) ?hr ?_; (case hd => rfl); (case hg => rfl); (case hr => first | (go_simp; done) | (go_simp; rfl)); intro gb178 hg w3 hbox hb; have n0_ := Aside0.mk (below_step (by repeat (first | (with_reducible first | exact HB.out | apply below_alloc | apply pw_below_drewN | apply below_drew1) | exact HB.out)) hb); have n1_ := Aside0.mk (hbox); have n2_ := Aside0.mk ((by rw [hg]; exact (below_size (by repeat (first | (with_reducible first | exact HB.out | apply below_alloc | apply pw_below_drewN | apply below_drew1) | exact HB.out))) : w.heap.size ≤ gb178)); have n3_ := Aside0.mk ((by rw [hg]; exact (below_size (by repeat (first | (with_reducible first | exact HB.out | apply below_alloc | apply pw_below_drewN | apply below_drew1) | exact HB.out))) : w.heap.size ≤ gb178)); clear HB; have HB := n0_; have BK178 := n1_; have GW178 := n2_; have GE178 := n3_; clear n0_ n1_ n2_ n3_; clear hb hbox hg))
  have n0_ := Aside0.mk (blk_drew BK178.out)
  have n1_ := Aside0.mk (below_drew1 HB.out)
  clear BK178
  clear HB
  have BK178 := n0_
  have HB := n1_
  clear n0_ n1_
  refine start_ (n := 9) (S := fun w' => w'.cell? ⟨gb178, 0, none⟩ = some (.int .i8 a0_0) ∧ w'.cell? ⟨gb178, 1, none⟩ = some (.int .i16 a0_1)) (ds := []) #[false, false, false, false, false, false, false, false, false] (by kernel_rfl) rfl rfl ⟨(blk_cell BK178.out 0).trans rfl, (blk_cell BK178.out 1).trans rfl⟩ (fun hHeld => ?_); refine with_tabW impl_Notch_end.tab1 impl_Notch_end.bits1 (fun HT_ HW_ => ?_)
  generalize w3.drew = w4 at BK178 HB hHeld ⊢
  refine pure_ (i := 0) (N := some 3) (v := ?_) (a' := ?_) #[true, false, false, false, false, false, false, false, false] rfl rfl (any_of HT_.out (by kernel_rfl)) (fun _ _ _ h => h) (Or.inl ⟨by rfl, ?_⟩) ?_ ?_
  rotate_left
  · intro w'
    go_simp
    with_reducible rfl
  rotate_left
  · simp only [Act.put, List.setIfInBounds_toArray, List.set_cons_zero, List.set_cons_succ, i64_w, i32_w]
    rfl
  refine pure_ (i := 3) (N := some 6) (v := ?_) (a' := ?_) #[true, false, false, true, false, false, false, false, false] rfl rfl (any_of HT_.out (by kernel_rfl)) (fun _ _ _ h => h) (Or.inl ⟨by rfl, ?_⟩) ?_ ?_
  rotate_left
  · intro w'
    go_simp
    with_reducible rfl
  rotate_left
  · simp only [Act.put, List.setIfInBounds_toArray, List.set_cons_zero, List.set_cons_succ, i64_w, i32_w]
    rfl
  refine take_ (i := 1) (N := some 4) (v := ?_) (a' := ?_) #[true, true, false, true, false, false, false, false, false] rfl rfl (take_ofW HT_.out HW_.out (by kernel_rfl)) (fun _ _ _ h => h) (Or.inl ⟨by rfl, ?_⟩) hHeld ?_ ?_
  rotate_left
  · rintro w' ⟨s0, s1⟩
    go_simp
    with_reducible rfl
  rotate_left
  · simp only [Act.put, List.setIfInBounds_toArray, List.set_cons_zero, List.set_cons_succ, i64_w, i32_w]
    rfl
  refine pure_ (i := 2) (N := some 5) (v := ?_) (a' := ?_) #[true, true, true, true, false, false, false, false, false] rfl rfl (any_of HT_.out (by kernel_rfl)) (fun _ _ _ h => h) (Or.inl ⟨by rfl, ?_⟩) ?_ ?_
  rotate_left
  · intro w'
    go_simp
    with_reducible rfl
  rotate_left
  · simp only [Act.put, List.setIfInBounds_toArray, List.set_cons_zero, List.set_cons_succ, i64_w, i32_w]
    rfl
  refine take_ (i := 4) (N := some 7) (v := ?_) (a' := ?_) #[true, true, true, true, true, false, false, false, false] rfl rfl (take_ofW HT_.out HW_.out (by kernel_rfl)) (fun _ _ _ h => h) (Or.inl ⟨by rfl, ?_⟩) hHeld ?_ ?_
  rotate_left
  · rintro w' ⟨s0, s1⟩
    go_simp
    with_reducible rfl
  rotate_left
  · simp only [Act.put, List.setIfInBounds_toArray, List.set_cons_zero, List.set_cons_succ, i64_w, i32_w]
    rfl
  refine pure_ (i := 5) (N := some 8) (v := ?_) (a' := ?_) #[true, true, true, true, true, true, false, false, false] rfl rfl (any_of HT_.out (by kernel_rfl)) (fun _ _ _ h => h) (Or.inl ⟨by rfl, ?_⟩) ?_ ?_
  rotate_left
  · intro w'
    go_simp
    with_reducible rfl
  rotate_left
  · simp only [Act.put, List.setIfInBounds_toArray, List.set_cons_zero, List.set_cons_succ, i64_w, i32_w]
    rfl
  refine one_ (i := 6) (N := some 9) #[true, true, true, true, true, true, true, false, false] rfl rfl (one_of HT_.out (by kernel_rfl)) (by decide) (fun K hK => ?_)
  refine goes_ Try.func74 (by kernel_rfl) rfl #[.int .i64 (wrap64 (a0_0))] (by rfl) rfl rfl (by (try simp only [List.map_toArray, List.map_cons, List.map_nil]); first | done | (go_simp; done) | rfl | (simp only [List.length_drop, List.length_take]; rfl)) ?_
  with_reducible refine (impl_width.calls (wrap64 (a0_0)) t179 _ A2.out).mono ?_
  rintro e w5 ⟨rfl, hb⟩
  refine ⟨_, rfl, ?_⟩
  have n0_ := Aside0.mk (blk_below (g := gb178) (o := .cells #[.int .i8 a0_0, .int .i16 a0_1] 71 (0, 0)) (by (with_reducible repeat (first | refine blk_drewN ?_ _ | refine blk_drew ?_ | refine blk_alloc ?_ _)); exact BK178.out) hb)
  have n1_ := Aside0.mk (below_step (by repeat (first | (with_reducible first | exact HB.out | apply below_alloc | apply pw_below_drewN | apply below_drew1 | refine below_set ?_ GE178.out) | exact HB.out)) hb)
  clear BK178
  clear HB
  have BK178 := n0_
  have HB := n1_
  clear n0_ n1_
  (try clear hb)
  (try clear hb2)
  (try clear hk)
  (try clear hi)
  refine hK.out _ _ ⟨(blk_cell BK178.out 0).trans rfl, (blk_cell BK178.out 1).trans rfl⟩ (fun hHeld => ?_)
  clear hK K
  refine norm_ (a' := ?_) ?_ ?_
  rotate_left
  · show Act.put _ (some 9) _ = _
    simp only [Act.put, List.setIfInBounds_toArray, List.set_cons_zero, List.set_cons_succ, i64_w, i32_w]
    rfl
  refine pure_ (i := 7) (N := some 10) (v := ?_) (a' := ?_) #[true, true, true, true, true, true, true, true, false] rfl rfl (any_of HT_.out (by kernel_rfl)) (fun _ _ _ h => h) (Or.inl ⟨by rfl, ?_⟩) ?_ ?_
  rotate_left
  · intro w'
    go_simp
    with_reducible rfl
  rotate_left
  · simp only [Act.put, List.setIfInBounds_toArray, List.set_cons_zero, List.set_cons_succ, i64_w, i32_w]
    rfl
  refine pure_ (i := 8) (N := some 2) (v := ?_) (a' := ?_) #[true, true, true, true, true, true, true, true, true] rfl rfl (any_of HT_.out (by kernel_rfl)) (fun _ _ _ h => h) (Or.inl ⟨by rfl, ?_⟩) ?_ ?_
  rotate_left
  · intro w'
    go_simp
    with_reducible rfl
  rotate_left
  · simp only [Act.put, List.setIfInBounds_toArray, List.set_cons_zero, List.set_cons_succ, i64_w, i32_w]
    rfl
  refine done_ (done_of HT_.out (by kernel_rfl)) ?_
  try go_wp2
  go_ret
  exact ⟨by first | rfl | (simp [errW_none, errW_some] <;> rfl) | (simp [*, errW_none, errW_some] <;> rfl), by repeat (first | (with_reducible first | exact HB.out | apply below_alloc | apply pw_below_drewN | apply below_drew1 | refine below_set ?_ GE178.out) | exact HB.out)⟩

end Go.Proofs.Ytcblnnfodpglaaa.MCutStick
