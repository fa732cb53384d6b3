-- by a program of this session, for this claim
import Derived.Test.YtaodkhgffjnfoaaMNotchesForx0
import Derived.Test.YtaodkhgffjnfoaaMNotchesForx3
import Derived.Test.YtaodkhgffjnfoaaMNotchesForx5
namespace Go.Proofs.Ytaodkhgffjnfoaa.MNotchesFor
open Go.RowKit Go.Proofs.YtaodkhgffjnfoaaW.PrintWords Go.Proofs.YtaodkhgffjnfoaaW.PrintLast Go.Proofs.YtaodkhgffjnfoaaW.PrintMore
attribute [local go_sem] max2_int min2_int max_two min_two max_three min_three max_four min_four   -- for this text's walks alone
set_option linter.unusedVariables false
set_option linter.unusedSimpArgs false

/-! ### laws_heldNotchS: function 12 -/
def laws_heldNotchS.l0 : Nat → List (S74) → Int → Int → Option (Int)
  | 0, _, _, _ => none
  | k + 1, x0, x1, x5 => if x5 < (x0.length : Int) then (if 0 ≤ x5 then (if ((rd_T74 x0 x5).f0) = (IntKind.i8.wrap (x1)) then (if ((rd_T74 x0 x5).f1) = (IntKind.i16.wrap (wrap64 (x1 + 1))) then (laws_heldNotchS.l0 k x0 (wrap64 ((wrap64 (x1 + 1)) + 1)) (wrap64 (x5 + 1))) else (some (-1))) else (some (-1))) else (none)) else (some x1)
def laws_heldNotchS.f (k : Nat) (l0 : List (S74)) (a1 : Int) : Option (Int) := laws_heldNotchS.l0 k l0 a1 0
theorem laws_heldNotchS.mono_l : ∀ k, (∀ y0 y1 y2, LeO (laws_heldNotchS.l0 k y0 y1 y2) (laws_heldNotchS.l0 (k + 1) y0 y1 y2))
  | 0 => fun _ _ _ r h => by simp [laws_heldNotchS.l0] at h
  | k + 1 => by
    have ih0 := laws_heldNotchS.mono_l k
    · intro y0 y1 y2
      unfold laws_heldNotchS.l0
      repeat' first
      | (with_reducible exact ih0 _ _ _)
      | (with_reducible exact LeO.refl _)
      | (with_reducible exact LeO.none _)
      | (with_reducible refine LeO.ite ?_ ?_)
      | (with_reducible refine LeO.bind ?_ (fun _ => ?_))
      | exact ih0 _ _ _
      | exact LeO.none _
      | refine LeO.ite ?_ ?_
      | refine LeO.bind ?_ (fun _ => ?_)
theorem laws_heldNotchS.mono : ∀ a0 a1 k, LeO (laws_heldNotchS.f k a0 a1) (laws_heldNotchS.f (k + 1) a0 a1) := by
  intro a0 a1 k
  have ih0 := laws_heldNotchS.mono_l k
  unfold laws_heldNotchS.f
  repeat' first
      | (with_reducible exact ih0 _ _ _)
      | (with_reducible exact LeO.refl _)
      | (with_reducible exact LeO.none _)
      | (with_reducible refine LeO.ite ?_ ?_)
      | (with_reducible refine LeO.bind ?_ (fun _ => ?_))
      | exact ih0 _ _ _
      | exact LeO.none _
      | refine LeO.ite ?_ ?_
      | refine LeO.bind ?_ (fun _ => ?_)
set_option maxHeartbeats 8000000 in
set_option maxRecDepth 100000 in
theorem laws_heldNotchS.calls (k : Nat) (A0 : Option Addr) (c0 : Nat) (l0 : List (S74)) (a1 : Int) (r : Int) (w : World) (hr0 : Kd.C k74 w A0 l0.length l0) (hc0 : l0.length ≤ c0) (h : laws_heldNotchS.f k l0 a1 = some r) :
    Calls Try.prog 12 #[.slice A0 l0.length c0, .int .i64 a1] w fun e w' => e = .returned (.int .i64 r) ∧ Drawn0 w w' := by
  have HR0 := Aside0.mk hr0
  have HC0 := Aside0.mk hc0
  clear hr0 hc0
  have H : (laws_heldNotchS.l0 k l0 a1 0) = some r := h
  clear h
  have H' := Aside0.mk H
  clear H
  go_enter Try.func12, Try.ntmps12
  go_wp2
  go_loopg [1, 5] k (fun kq v1 v5 w' => ∃ (x1_1 : Int) (x5_1 : Int), v1 = .int .i64 x1_1 ∧ v5 = .int .i64 x5_1 ∧ Aside0 (laws_heldNotchS.l0 kq l0 x1_1 x5_1 = some r) ∧ Aside0 (kq ≤ k) ∧ Drawn0 w w')
  case atStart => exact ⟨(a1), (0), (by first | rfl | (simp; done) | (simp [*]; done)), (by first | rfl | (simp; done) | (simp [*]; done)), H', ⟨Nat.le_refl _⟩, by repeat (first | exact Drawn0.refl _ | apply Drawn0.step)⟩
  case round =>
    clear H'
    try clear c1
    try clear p2
    obtain ⟨x1_1, x5_1, rfl, rfl, HA, HK1, ⟨m1, rfl⟩⟩ := hrel
    cases gk with
    | zero => exact absurd HA.out (by simp [laws_heldNotchS.l0])
    | succ k1 =>
      have H := HA.out
      clear HA
      simp only [laws_heldNotchS.l0] at H
      by_cases c3 : x5_1 < (l0.length : Int)
      · rw [if_pos c3] at H
        have c3b0 : decide (x5_1 < (l0.length : Int)) = true := decide_eq_true c3
        clear c3
        by_cases c4 : 0 ≤ x5_1
        · rw [if_pos c4] at H
          have c4b0 : decide (0 ≤ x5_1) = true := decide_eq_true c4
          clear c4
          by_cases c5 : ((rd_T74 l0 x5_1).f0) = (IntKind.i8.wrap (x1_1))
          · rw [if_pos c5] at H
            have c5b0 : (((rd_T74 l0 x5_1).f0) == (IntKind.i8.wrap (x1_1))) = true := beq_iff_eq.mpr c5
            have c5b1 : (((rd_T74 l0 x5_1).f0) != (IntKind.i8.wrap (x1_1))) = false := bne_eq_false_iff_eq.mpr c5
            clear c5
            by_cases c6 : ((rd_T74 l0 x5_1).f1) = (IntKind.i16.wrap (wrap64 (x1_1 + 1)))
            · rw [if_pos c6] at H
              have c6b0 : (((rd_T74 l0 x5_1).f1) == (IntKind.i16.wrap (wrap64 (x1_1 + 1)))) = true := beq_iff_eq.mpr c6
              have c6b1 : (((rd_T74 l0 x5_1).f1) != (IntKind.i16.wrap (wrap64 (x1_1 + 1)))) = false := bne_eq_false_iff_eq.mpr c6
              clear c6
              have H' := Aside0.mk H
              clear H
              have p185 : 0 ≤ (x5_1 : Int) := of_decide_eq_true (by first | (with_reducible assumption) | assumption)
              have q185 : x5_1 < (l0.length : Int) := of_decide_eq_true (by first | (with_reducible assumption) | assumption)
              obtain ⟨ad185, e185, hx185_0, hx185_1⟩ := at_T74 HR0.out x5_1 p185 q185
              cases e185
              replace p185 := eq_true p185
              replace q185 := eq_true q185
              have p186 : 0 ≤ (x5_1 : Int) := of_decide_eq_true (by first | (with_reducible assumption) | assumption)
              have q186 : x5_1 < (l0.length : Int) := of_decide_eq_true (by first | (with_reducible assumption) | assumption)
              obtain ⟨ad186, e186, hx186_0, hx186_1⟩ := at_T74 HR0.out x5_1 p186 q186
              obtain rfl : ad185 = ad186 := (by injection e186)
              replace p186 := eq_true p186
              replace q186 := eq_true q186
              go_wp2
              go_roundg k1
              case measure => have := HK1.out; omega
              case rel => exact ⟨(wrap64 ((wrap64 (x1_1 + 1)) + 1)), (wrap64 (x5_1 + 1)), (by first | rfl | (simp; done) | (simp [*]; done)), (by first | rfl | (simp; done) | (simp [*]; done)), H', ⟨by have := HK1.out; omega⟩, by repeat (first | exact Drawn0.refl _ | apply Drawn0.step)⟩
            · rw [if_neg c6] at H
              have c6b0 : (((rd_T74 l0 x5_1).f1) == (IntKind.i16.wrap (wrap64 (x1_1 + 1)))) = false := beq_eq_false_iff_ne.mpr c6
              have c6b1 : (((rd_T74 l0 x5_1).f1) != (IntKind.i16.wrap (wrap64 (x1_1 + 1)))) = true := bne_iff_ne.mpr c6
              obtain rfl := Option.some.inj H
              have p185 : 0 ≤ (x5_1 : Int) := of_decide_eq_true (by first | (with_reducible assumption) | assumption)
              have q185 : x5_1 < (l0.length : Int) := of_decide_eq_true (by first | (with_reducible assumption) | assumption)
              obtain ⟨ad185, e185, hx185_0, hx185_1⟩ := at_T74 HR0.out x5_1 p185 q185
              cases e185
              replace p185 := eq_true p185
              replace q185 := eq_true q185
              have p186 : 0 ≤ (x5_1 : Int) := of_decide_eq_true (by first | (with_reducible assumption) | assumption)
              have q186 : x5_1 < (l0.length : Int) := of_decide_eq_true (by first | (with_reducible assumption) | assumption)
              obtain ⟨ad186, e186, hx186_0, hx186_1⟩ := at_T74 HR0.out x5_1 p186 q186
              obtain rfl : ad185 = ad186 := (by injection e186)
              replace p186 := eq_true p186
              replace q186 := eq_true q186
              go_wp2
              go_ret
              exact ⟨by first | rfl | (simp; done) | (simp [*]; done), by repeat (first | exact Drawn0.refl _ | apply Drawn0.step)⟩
          · rw [if_neg c5] at H
            have c5b0 : (((rd_T74 l0 x5_1).f0) == (IntKind.i8.wrap (x1_1))) = false := beq_eq_false_iff_ne.mpr c5
            have c5b1 : (((rd_T74 l0 x5_1).f0) != (IntKind.i8.wrap (x1_1))) = true := bne_iff_ne.mpr c5
            obtain rfl := Option.some.inj H
            have p185 : 0 ≤ (x5_1 : Int) := of_decide_eq_true (by first | (with_reducible assumption) | assumption)
            have q185 : x5_1 < (l0.length : Int) := of_decide_eq_true (by first | (with_reducible assumption) | assumption)
            obtain ⟨ad185, e185, hx185_0, hx185_1⟩ := at_T74 HR0.out x5_1 p185 q185
            cases e185
            replace p185 := eq_true p185
            replace q185 := eq_true q185
            go_wp2
            go_ret
            exact ⟨by first | rfl | (simp; done) | (simp [*]; done), by repeat (first | exact Drawn0.refl _ | apply Drawn0.step)⟩
        · rw [if_neg c4] at H
          exact absurd H (by simp)
      · rw [if_neg c3] at H
        have c3b0 : decide (x5_1 < (l0.length : Int)) = false := decide_eq_false c3
        clear c3
        obtain rfl := Option.some.inj H
        go_wp2
        go_ret
        exact ⟨by first | rfl | (simp; done) | (simp [*]; done), by repeat (first | exact Drawn0.refl _ | apply Drawn0.step)⟩

/-! ### laws_FnExactNotchesFor: function 3 -/
mutual
def laws_FnExactNotchesFor.j0 : Nat → Int → List (S74) → Int → List (S74) → Bool → Option (Bool)
  | 0, _, _, _, _, _ => none
  | k + 1, x0, x3, x4, x5, x29 => if x29 = true then (some false) else ((laws_markNotchS.f k x5 1).bind fun bt196 => ((laws_heldNotchS.f k bt196.2 1).bind fun t198 => (if t198 < 0 then (some false) else (if t198 = bt196.1 then ((impl_NotchesFor.f k x0).bind fun bt199 => ((laws_eqNotchS.f k bt199.1 x3).bind fun t203 => (if t203 = true then (laws_FnExactNotchesFor.j1 k bt196.2 bt196.1 (bt199.2 != x4)) else (laws_FnExactNotchesFor.j1 k bt196.2 bt196.1 true)))) else (some false)))))
def laws_FnExactNotchesFor.j1 : Nat → List (S74) → Int → Bool → Option (Bool)
  | 0, _, _, _ => none
  | k + 1, x5, x7, x54 => if x54 = true then (some false) else ((laws_heldNotchS.f k x5 1).bind fun t204 => (if t204 < 0 then (some false) else (if t204 = x7 then (some true) else (some false))))
end
def laws_FnExactNotchesFor.f (k : Nat) (a0 : Int) : Option (Bool) := (spec_NotchesFor.f k a0).bind fun bt187 => ((impl_NotchesFor.f k a0).bind fun bt191 => ((laws_eqNotchS.f k bt191.1 bt187.1).bind fun t195 => (if t195 = true then (laws_FnExactNotchesFor.j0 k a0 bt187.1 bt187.2 bt191.1 (bt191.2 != bt187.2)) else (laws_FnExactNotchesFor.j0 k a0 bt187.1 bt187.2 bt191.1 true))))
theorem laws_FnExactNotchesFor.mono_l : ∀ k, (∀ y0 y1 y2 y3 y4, LeO (laws_FnExactNotchesFor.j0 k y0 y1 y2 y3 y4) (laws_FnExactNotchesFor.j0 (k + 1) y0 y1 y2 y3 y4)) ∧ (∀ y0 y1 y2, LeO (laws_FnExactNotchesFor.j1 k y0 y1 y2) (laws_FnExactNotchesFor.j1 (k + 1) y0 y1 y2))
  | 0 => ⟨fun _ _ _ _ _ r h => by simp [laws_FnExactNotchesFor.j0] at h, fun _ _ _ r h => by simp [laws_FnExactNotchesFor.j1] at h⟩
  | k + 1 => by
    obtain ⟨ih0, ih1⟩ := laws_FnExactNotchesFor.mono_l k
    refine ⟨?_, ?_⟩
    · intro y0 y1 y2 y3 y4
      unfold laws_FnExactNotchesFor.j0
      repeat' first
      | (with_reducible exact ih0 _ _ _ _ _)
      | (with_reducible exact ih1 _ _ _)
      | (with_reducible exact impl_NotchesFor.mono _ _)
      | (with_reducible exact laws_eqNotchS.mono _ _ _)
      | (with_reducible exact laws_heldNotchS.mono _ _ _)
      | (with_reducible exact laws_markNotchS.mono _ _ _)
      | (with_reducible exact spec_NotchesFor.mono _ _)
      | (with_reducible exact LeO.refl _)
      | (with_reducible exact LeO.none _)
      | (with_reducible refine LeO.ite ?_ ?_)
      | (with_reducible refine LeO.bind ?_ (fun _ => ?_))
      | exact ih0 _ _ _ _ _
      | exact ih1 _ _ _
      | exact impl_NotchesFor.mono _ _
      | exact laws_eqNotchS.mono _ _ _
      | exact laws_heldNotchS.mono _ _ _
      | exact laws_markNotchS.mono _ _ _
      | exact spec_NotchesFor.mono _ _
      | exact LeO.none _
      | refine LeO.ite ?_ ?_
      | refine LeO.bind ?_ (fun _ => ?_)
    · intro y0 y1 y2
      unfold laws_FnExactNotchesFor.j1
      repeat' first
      | (with_reducible exact ih0 _ _ _ _ _)
      | (with_reducible exact ih1 _ _ _)
      | (with_reducible exact impl_NotchesFor.mono _ _)
      | (with_reducible exact laws_eqNotchS.mono _ _ _)
      | (with_reducible exact laws_heldNotchS.mono _ _ _)
      | (with_reducible exact laws_markNotchS.mono _ _ _)
      | (with_reducible exact spec_NotchesFor.mono _ _)
      | (with_reducible exact LeO.refl _)
      | (with_reducible exact LeO.none _)
      | (with_reducible refine LeO.ite ?_ ?_)
      | (with_reducible refine LeO.bind ?_ (fun _ => ?_))
      | exact ih0 _ _ _ _ _
      | exact ih1 _ _ _
      | exact impl_NotchesFor.mono _ _
      | exact laws_eqNotchS.mono _ _ _
      | exact laws_heldNotchS.mono _ _ _
      | exact laws_markNotchS.mono _ _ _
      | exact spec_NotchesFor.mono _ _
      | exact LeO.none _
      | refine LeO.ite ?_ ?_
      | refine LeO.bind ?_ (fun _ => ?_)
theorem laws_FnExactNotchesFor.mono : ∀ a0 k, LeO (laws_FnExactNotchesFor.f k a0) (laws_FnExactNotchesFor.f (k + 1) a0) := by
  intro a0 k
  obtain ⟨ih0, ih1⟩ := laws_FnExactNotchesFor.mono_l k
  unfold laws_FnExactNotchesFor.f
  repeat' first
      | (with_reducible exact ih0 _ _ _ _ _)
      | (with_reducible exact ih1 _ _ _)
      | (with_reducible exact impl_NotchesFor.mono _ _)
      | (with_reducible exact laws_eqNotchS.mono _ _ _)
      | (with_reducible exact laws_heldNotchS.mono _ _ _)
      | (with_reducible exact laws_markNotchS.mono _ _ _)
      | (with_reducible exact spec_NotchesFor.mono _ _)
      | (with_reducible exact LeO.refl _)
      | (with_reducible exact LeO.none _)
      | (with_reducible refine LeO.ite ?_ ?_)
      | (with_reducible refine LeO.bind ?_ (fun _ => ?_))
      | exact ih0 _ _ _ _ _
      | exact ih1 _ _ _
      | exact impl_NotchesFor.mono _ _
      | exact laws_eqNotchS.mono _ _ _
      | exact laws_heldNotchS.mono _ _ _
      | exact laws_markNotchS.mono _ _ _
      | exact spec_NotchesFor.mono _ _
      | exact LeO.none _
      | refine LeO.ite ?_ ?_
      | refine LeO.bind ?_ (fun _ => ?_)
set_option maxHeartbeats 8000000 in
set_option maxRecDepth 100000 in
theorem laws_FnExactNotchesFor.calls (k : Nat) (a0 : Int) (r : Bool) (w : World) (h : laws_FnExactNotchesFor.f k a0 = some r) :
    Calls Try.prog 3 #[.int .i64 a0] w fun e w' => e = .returned (.bool r) ∧ Below w.heap.size w w' := by
  have HB := Aside0.mk (Below.refl w.heap.size w)
  have H : ((spec_NotchesFor.f k a0).bind fun bt187 => ((impl_NotchesFor.f k a0).bind fun bt191 => ((laws_eqNotchS.f k bt191.1 bt187.1).bind fun t195 => (if t195 = true then (laws_FnExactNotchesFor.j0 k a0 bt187.1 bt187.2 bt191.1 (bt191.2 != bt187.2)) else (laws_FnExactNotchesFor.j0 k a0 bt187.1 bt187.2 bt191.1 true))))) = some r := h
  clear h
  replace H := Option.bind_eq_some_iff.mp H
  obtain ⟨⟨t187, t188⟩, A20, H⟩ := H
  replace H : ((impl_NotchesFor.f k a0).bind fun bt191 => ((laws_eqNotchS.f k bt191.1 t187).bind fun t195 => (if t195 = true then (laws_FnExactNotchesFor.j0 k a0 t187 t188 bt191.1 (bt191.2 != t188)) else (laws_FnExactNotchesFor.j0 k a0 t187 t188 bt191.1 true)))) = some r := H
  have A2 := Aside0.mk A20
  clear A20
  replace H := Option.bind_eq_some_iff.mp H
  obtain ⟨⟨t191, t192⟩, A30, H⟩ := H
  replace H : ((laws_eqNotchS.f k t191 t187).bind fun t195 => (if t195 = true then (laws_FnExactNotchesFor.j0 k a0 t187 t188 t191 (t192 != t188)) else (laws_FnExactNotchesFor.j0 k a0 t187 t188 t191 true))) = some r := H
  have A3 := Aside0.mk A30
  clear A30
  have HC4 := Aside0.mk H
  clear H
  go_enter Try.func3, Try.ntmps3
  go_upto_region 3 with (first | ((with_reducible refine gate_callee (f := 8) rfl ?_); refine goesL_ (some 13) rfl rfl Try.func8 (by kernel_rfl) rfl #[.int .i64 a0] rfl (by (try simp only [List.map_toArray, List.map_cons, List.map_nil]); first | done | (go_simp; done) | rfl | (simp only [List.length_drop, List.length_take]; rfl)) ?_; (with_reducible refine (spec_NotchesFor.calls k a0 t187 t188 _ A2.out).mono ?_); rintro e w5 ⟨v189, rfl, ho0, hb⟩; refine ⟨_, rfl, ?_⟩; have n0_ := Aside0.mk (Kd.R_lower ho0 (below_size (by repeat (first | (with_reducible first | exact HB.out | apply below_alloc | apply pw_below_drewN | apply below_drew1) | exact HB.out)))); have n1_ := Aside0.mk (below_step (by repeat (first | (with_reducible first | exact HB.out | apply below_alloc | apply pw_below_drewN | apply below_drew1) | exact HB.out)) hb); clear HB; have HO190 := n0_; have HB := n1_; clear n0_ n1_; (try clear hb); (try clear hb2); (try clear hk); (try clear hi); (try clear ho0)) | ((with_reducible refine gate_callee (f := 9) rfl ?_); refine goesL_ (some 18) rfl rfl Try.func9 (by kernel_rfl) rfl #[.int .i64 a0] rfl (by (try simp only [List.map_toArray, List.map_cons, List.map_nil]); first | done | (go_simp; done) | rfl | (simp only [List.length_drop, List.length_take]; rfl)) ?_; (with_reducible refine (impl_NotchesFor.calls k a0 t191 t192 _ A3.out).mono ?_); rintro e w6 ⟨v193, rfl, ho0, hb⟩; refine ⟨_, rfl, ?_⟩; have n0_ := Aside0.mk (Kd.R_elder' (by (with_reducible repeat (first | apply Kd.R_alloc | apply Kd.R_drewN | apply Kd.R_drew)); exact HO190.out) (Kd.R_base ho0) hb); have n1_ := Aside0.mk (Kd.R_lower (Kd.R_new' ho0 (Kd.R_lt (by (with_reducible repeat (first | apply Kd.R_alloc | apply Kd.R_drewN | apply Kd.R_drew)); exact HO190.out))) (below_size (by repeat (first | (with_reducible first | exact HB.out | apply below_alloc | apply pw_below_drewN | apply below_drew1) | exact HB.out)))); have n2_ := Aside0.mk (below_step (by repeat (first | (with_reducible first | exact HB.out | apply below_alloc | apply pw_below_drewN | apply below_drew1) | exact HB.out)) hb); clear HO190; clear HB; have HO190 := n0_; have HO194 := n1_; have HB := n2_; clear n0_ n1_ n2_; (try clear hb); (try clear hb2); (try clear hk); (try clear hi); (try clear ho0)))
  (try simp only [Act.put, List.setIfInBounds_toArray, List.set_cons_zero, List.set_cons_succ])
  go_cut [29] (fun v29 wc => ∃ (kq : Nat) (x29_3 : Bool), v29 = .bool x29_3 ∧ Aside0 (laws_FnExactNotchesFor.j0 kq a0 t187 t188 t191 x29_3 = some r) ∧ Aside0 (kq ≤ k) ∧ Aside0 (Kd.R k74 74 wc w.heap.size (fun k_ => some k_ ≠ (v193 : Value).ownBlock) v189 t187) ∧ Aside0 (Kd.R k74 74 wc w.heap.size (fun k_ => some k_ ≠ (v189 : Value).ownBlock) v193 t191) ∧ Aside0 (Below w.heap.size w wc))
  case first =>
    have H := HC4.out
    clear HC4
    replace H := Option.bind_eq_some_iff.mp H
    obtain ⟨t195, A70, H⟩ := H
    replace H : (if t195 = true then (laws_FnExactNotchesFor.j0 k a0 t187 t188 t191 (t192 != t188)) else (laws_FnExactNotchesFor.j0 k a0 t187 t188 t191 true)) = some r := H
    have A7 := Aside0.mk A70
    clear A70
    by_cases c8 : t195 = true
    · subst c8
      have H1 : (laws_FnExactNotchesFor.j0 k a0 t187 t188 t191 (t192 != t188)) = some r := by rw [if_pos rfl] at H; exact H
      clear H
      have H := H1
      clear H1
      have H' := Aside0.mk H
      clear H
      obtain ⟨Ao9, co9, eo9⟩ := Kd.R_slice HO194.out
      subst eo9
      obtain ⟨Ao10, co10, eo10⟩ := Kd.R_slice HO190.out
      subst eo10
      go_wp2_with (first | ((with_reducible refine gate_callee (f := 10) rfl ?_); refine goesL_ (some 23) rfl rfl Try.func10 (by kernel_rfl) rfl #[.slice Ao9 t191.length co9, .slice Ao10 t187.length co10] rfl (by (try simp only [List.map_toArray, List.map_cons, List.map_nil]); first | done | (go_simp; done) | rfl | (simp only [List.length_drop, List.length_take]; rfl)) ?_; (with_reducible refine (laws_eqNotchS.calls k _ _ t191 _ _ t187 true _ ?side1 ?side2 ?side3 ?side4 A7.out).mono ?_); (case side1 => repeat (first | exact (Kd.R_reads' HO194.out).2.2 | (with_reducible refine Kd.C_alloc ?_ _) | (with_reducible refine Kd.C_drewN ?_ _) | (with_reducible refine Kd.C_drew ?_))); (case side2 => exact (Kd.R_reads' HO194.out).2.1); (case side3 => repeat (first | exact (Kd.R_reads' HO190.out).2.2 | (with_reducible refine Kd.C_alloc ?_ _) | (with_reducible refine Kd.C_drewN ?_ _) | (with_reducible refine Kd.C_drew ?_))); (case side4 => exact (Kd.R_reads' HO190.out).2.1); rintro e w11 ⟨rfl, hb⟩; refine ⟨_, rfl, ?_⟩; have n0_ := Aside0.mk (Kd.R_below (by (with_reducible repeat (first | apply Kd.R_alloc | apply Kd.R_drewN | apply Kd.R_drew)); exact HO190.out) hb); have n1_ := Aside0.mk (Kd.R_below (by (with_reducible repeat (first | apply Kd.R_alloc | apply Kd.R_drewN | apply Kd.R_drew)); exact HO194.out) hb); have n2_ := Aside0.mk (below_step (by repeat (first | (with_reducible first | exact HB.out | apply below_alloc | apply pw_below_drewN | apply below_drew1) | exact HB.out)) hb); clear HO190; clear HO194; clear HB; have HO190 := n0_; have HO194 := n1_; have HB := n2_; clear n0_ n1_ n2_; (try clear hb); (try clear hb2); (try clear hk); (try clear hi)))
      go_meet
      case rel => exact ⟨_, ((t192 != t188)), (by first | rfl | (simp; done) | (simp [*]; done)), H', ⟨by first | omega | exact Nat.le_refl _⟩, ⟨by (with_reducible repeat (first | apply Kd.R_alloc | apply Kd.R_drewN | apply Kd.R_drew)); exact Kd.R_mono HO190.out (fun _ hk => hk.2)⟩, ⟨by (with_reducible repeat (first | apply Kd.R_alloc | apply Kd.R_drewN | apply Kd.R_drew)); exact Kd.R_mono HO194.out (fun _ hk => hk.2)⟩, ⟨by repeat (first | (with_reducible first | exact HB.out | apply below_alloc | apply pw_below_drewN | apply below_drew1) | exact HB.out)⟩⟩
    · replace c8 := Bool.eq_false_iff.mpr c8
      subst c8
      have H1 : (laws_FnExactNotchesFor.j0 k a0 t187 t188 t191 true) = some r := by rw [if_neg (show ¬ (false = true) by decide)] at H; exact H
      clear H
      have H := H1
      clear H1
      have H' := Aside0.mk H
      clear H
      obtain ⟨Ao12, co12, eo12⟩ := Kd.R_slice HO194.out
      subst eo12
      obtain ⟨Ao13, co13, eo13⟩ := Kd.R_slice HO190.out
      subst eo13
      go_wp2_with (first | ((with_reducible refine gate_callee (f := 10) rfl ?_); refine goesL_ (some 23) rfl rfl Try.func10 (by kernel_rfl) rfl #[.slice Ao12 t191.length co12, .slice Ao13 t187.length co13] rfl (by (try simp only [List.map_toArray, List.map_cons, List.map_nil]); first | done | (go_simp; done) | rfl | (simp only [List.length_drop, List.length_take]; rfl)) ?_; (with_reducible refine (laws_eqNotchS.calls k _ _ t191 _ _ t187 false _ ?side1 ?side2 ?side3 ?side4 A7.out).mono ?_); (case side1 => repeat (first | exact (Kd.R_reads' HO194.out).2.2 | (with_reducible refine Kd.C_alloc ?_ _) | (with_reducible refine Kd.C_drewN ?_ _) | (with_reducible refine Kd.C_drew ?_))); (case side2 => exact (Kd.R_reads' HO194.out).2.1); (case side3 => repeat (first | exact (Kd.R_reads' HO190.out).2.2 | (with_reducible refine Kd.C_alloc ?_ _) | (with_reducible refine Kd.C_drewN ?_ _) | (with_reducible refine Kd.C_drew ?_))); (case side4 => exact (Kd.R_reads' HO190.out).2.1); rintro e w14 ⟨rfl, hb⟩; refine ⟨_, rfl, ?_⟩; have n0_ := Aside0.mk (Kd.R_below (by (with_reducible repeat (first | apply Kd.R_alloc | apply Kd.R_drewN | apply Kd.R_drew)); exact HO190.out) hb); have n1_ := Aside0.mk (Kd.R_below (by (with_reducible repeat (first | apply Kd.R_alloc | apply Kd.R_drewN | apply Kd.R_drew)); exact HO194.out) hb); have n2_ := Aside0.mk (below_step (by repeat (first | (with_reducible first | exact HB.out | apply below_alloc | apply pw_below_drewN | apply below_drew1) | exact HB.out)) hb); clear HO190; clear HO194; clear HB; have HO190 := n0_; have HO194 := n1_; have HB := n2_; clear n0_ n1_ n2_; (try clear hb); (try clear hb2); (try clear hk); (try clear hi)))
      go_meet
      case rel => exact ⟨_, (true), (by first | rfl | (simp; done) | (simp [*]; done)), H', ⟨by first | omega | exact Nat.le_refl _⟩, ⟨by (with_reducible repeat (first | apply Kd.R_alloc | apply Kd.R_drewN | apply Kd.R_drew)); exact Kd.R_mono HO190.out (fun _ hk => hk.2)⟩, ⟨by (with_reducible repeat (first | apply Kd.R_alloc | apply Kd.R_drewN | apply Kd.R_drew)); exact Kd.R_mono HO194.out (fun _ hk => hk.2)⟩, ⟨by repeat (first | (with_reducible first | exact HB.out | apply below_alloc | apply pw_below_drewN | apply below_drew1) | exact HB.out)⟩⟩
  case rest =>
    clear HC4
    try clear c1
    try clear p2
    try clear c3
    try clear c8
    try clear c9
    try clear c10
    obtain ⟨kq, x29_3, rfl, HA, HJ3, HO_3, HO_5, HB⟩ := hcut
    cases kq with
    | zero => exact absurd HA.out (by simp [laws_FnExactNotchesFor.j0])
    | succ kj3 =>
      have H := HA.out
      clear HA
      simp only [laws_FnExactNotchesFor.j0] at H
      by_cases c15 : x29_3 = true
      · subst c15
        have H1 : (some false) = some r := by rw [if_pos rfl] at H; exact H
        clear H
        have H := H1
        clear H1
        obtain rfl := Option.some.inj H
        go_wp2
        go_ret
        exact ⟨by first | rfl | (simp [errW_none, errW_some] <;> rfl) | (simp [*, errW_none, errW_some] <;> rfl), by repeat (first | (with_reducible first | exact HB.out | apply below_alloc | apply pw_below_drewN | apply below_drew1) | exact HB.out)⟩
      · replace c15 := Bool.eq_false_iff.mpr c15
        subst c15
        have H1 : ((laws_markNotchS.f kj3 t191 1).bind fun bt196 => ((laws_heldNotchS.f kj3 bt196.2 1).bind fun t198 => (if t198 < 0 then (some false) else (if t198 = bt196.1 then ((impl_NotchesFor.f kj3 a0).bind fun bt199 => ((laws_eqNotchS.f kj3 bt199.1 t187).bind fun t203 => (if t203 = true then (laws_FnExactNotchesFor.j1 kj3 bt196.2 bt196.1 (bt199.2 != t188)) else (laws_FnExactNotchesFor.j1 kj3 bt196.2 bt196.1 true)))) else (some false))))) = some r := by rw [if_neg (show ¬ (false = true) by decide)] at H; exact H
        clear H
        have H := H1
        clear H1
        replace H := Option.bind_eq_some_iff.mp H
        obtain ⟨⟨t196, t197⟩, A160, H⟩ := H
        replace H : ((laws_heldNotchS.f kj3 t197 1).bind fun t198 => (if t198 < 0 then (some false) else (if t198 = t196 then ((impl_NotchesFor.f kj3 a0).bind fun bt199 => ((laws_eqNotchS.f kj3 bt199.1 t187).bind fun t203 => (if t203 = true then (laws_FnExactNotchesFor.j1 kj3 t197 t196 (bt199.2 != t188)) else (laws_FnExactNotchesFor.j1 kj3 t197 t196 true)))) else (some false)))) = some r := H
        have A16 := Aside0.mk A160
        clear A160
        replace H := Option.bind_eq_some_iff.mp H
        obtain ⟨t198, A170, H⟩ := H
        replace H : (if t198 < 0 then (some false) else (if t198 = t196 then ((impl_NotchesFor.f kj3 a0).bind fun bt199 => ((laws_eqNotchS.f kj3 bt199.1 t187).bind fun t203 => (if t203 = true then (laws_FnExactNotchesFor.j1 kj3 t197 t196 (bt199.2 != t188)) else (laws_FnExactNotchesFor.j1 kj3 t197 t196 true)))) else (some false))) = some r := H
        have A17 := Aside0.mk A170
        clear A170
        by_cases c18 : t198 < 0
        · rw [if_pos c18] at H
          have c18b0 : decide (t198 < 0) = true := decide_eq_true c18
          clear c18
          obtain rfl := Option.some.inj H
          obtain ⟨Ao19, co19, eo19⟩ := Kd.R_slice HO_5.out
          subst eo19
          go_wp2_with (first | ((with_reducible refine gate_callee (f := 11) rfl ?_); refine goesL_ (some 32) rfl rfl Try.func11 (by kernel_rfl) rfl #[.slice Ao19 t191.length co19, .int .i64 1] rfl (by (try simp only [List.map_toArray, List.map_cons, List.map_nil]); first | done | (go_simp; done) | rfl | (simp only [List.length_drop, List.length_take]; rfl)) ?_; (with_reducible refine (laws_markNotchS.calls kj3 (fun k_ => some k_ = (.slice Ao19 t191.length co19 : Value).ownBlock) (.slice Ao19 t191.length co19) t191 1 t196 t197 w _ ?side1 ?side2 A16.out).mono ?_); (case side1 => repeat (first | (with_reducible first | exact HB.out | apply below_alloc | apply pw_below_drewN | apply below_drew1) | exact HB.out)); (case side2 => exact Kd.R_tight rfl HO_5.out); rintro e w20 ⟨rfl, hy0, hb, hkp⟩; refine ⟨_, rfl, ?_⟩; have n0_ := Aside0.mk (Kd.R_mono (ok' := fun k_ => some k_ ≠ (.slice Ao19 t191.length co19 : Value).ownBlock) (Kd.R_keptB (HO_3.out) hkp (fun k_ hk_ hs_ => (hk_) hs_)) (fun k_ hk_ => hk_.1)); have n1_ := Aside0.mk (Kd.R_reok rfl hy0 (fun k_ e_ => HO_5.out.1 k_ e_)); have n2_ := Aside0.mk (hb); clear HO_3; clear HO_5; clear HB; have HO_3 := n0_; have HO_5 := n1_; have HB := n2_; clear n0_ n1_ n2_; (try clear hb); (try clear hkp); (try clear hy0)) | ((with_reducible refine gate_callee (f := 12) rfl ?_); refine goesL_ (some 35) rfl rfl Try.func12 (by kernel_rfl) rfl #[.slice Ao19 t197.length co19, .int .i64 1] rfl (by (try simp only [List.map_toArray, List.map_cons, List.map_nil]); first | done | (rw [show t197.length = t191.length from (Kd.R_reads' HO_5.out).1.symm] <;> rfl) | (go_simp; done) | rfl | (simp only [List.length_drop, List.length_take]; rfl)) ?_; (with_reducible refine (laws_heldNotchS.calls kj3 _ _ t197 1 t198 _ ?side1 ?side2 A17.out).mono ?_); (case side1 => repeat (first | exact (Kd.R_reads' HO_5.out).2.2 | (with_reducible refine Kd.C_alloc ?_ _) | (with_reducible refine Kd.C_drewN ?_ _) | (with_reducible refine Kd.C_drew ?_))); (case side2 => rw [show t197.length = t191.length from (Kd.R_reads' HO_5.out).1.symm]; exact (Kd.R_reads' HO_5.out).2.1); rintro e w' ⟨rfl, ⟨nd, rfl⟩⟩; refine ⟨_, rfl, ?_⟩))
          go_ret
          exact ⟨by first | rfl | (simp [errW_none, errW_some] <;> rfl) | (simp [*, errW_none, errW_some] <;> rfl), by repeat (first | (with_reducible first | exact HB.out | apply below_alloc | apply pw_below_drewN | apply below_drew1) | exact HB.out)⟩
        · rw [if_neg c18] at H
          have c18b0 : decide (t198 < 0) = false := decide_eq_false c18
          clear c18
          by_cases c21 : t198 = t196
          · rw [if_pos c21] at H
            have c21b0 : (t198 == t196) = true := beq_iff_eq.mpr c21
            have c21b1 : (t198 != t196) = false := bne_eq_false_iff_eq.mpr c21
            clear c21
            replace H := Option.bind_eq_some_iff.mp H
            obtain ⟨⟨t199, t200⟩, A220, H⟩ := H
            replace H : ((laws_eqNotchS.f kj3 t199 t187).bind fun t203 => (if t203 = true then (laws_FnExactNotchesFor.j1 kj3 t197 t196 (t200 != t188)) else (laws_FnExactNotchesFor.j1 kj3 t197 t196 true))) = some r := H
            have A22 := Aside0.mk A220
            clear A220
            have HC23 := Aside0.mk H
            clear H
            obtain ⟨Ao24, co24, eo24⟩ := Kd.R_slice HO_5.out
            subst eo24
            go_upto_region 14 with (first | ((with_reducible refine gate_callee (f := 11) rfl ?_); refine goesL_ (some 32) rfl rfl Try.func11 (by kernel_rfl) rfl #[.slice Ao24 t191.length co24, .int .i64 1] rfl (by (try simp only [List.map_toArray, List.map_cons, List.map_nil]); first | done | (go_simp; done) | rfl | (simp only [List.length_drop, List.length_take]; rfl)) ?_; (with_reducible refine (laws_markNotchS.calls kj3 (fun k_ => some k_ = (.slice Ao24 t191.length co24 : Value).ownBlock) (.slice Ao24 t191.length co24) t191 1 t196 t197 w _ ?side1 ?side2 A16.out).mono ?_); (case side1 => repeat (first | (with_reducible first | exact HB.out | apply below_alloc | apply pw_below_drewN | apply below_drew1) | exact HB.out)); (case side2 => exact Kd.R_tight rfl HO_5.out); rintro e w25 ⟨rfl, hy0, hb, hkp⟩; refine ⟨_, rfl, ?_⟩; have n0_ := Aside0.mk (Kd.R_mono (ok' := fun k_ => some k_ ≠ (.slice Ao24 t191.length co24 : Value).ownBlock) (Kd.R_keptB (HO_3.out) hkp (fun k_ hk_ hs_ => (hk_) hs_)) (fun k_ hk_ => hk_.1)); have n1_ := Aside0.mk (Kd.R_reok rfl hy0 (fun k_ e_ => HO_5.out.1 k_ e_)); have n2_ := Aside0.mk (hb); clear HO_3; clear HO_5; clear HB; have HO_3 := n0_; have HO_5 := n1_; have HB := n2_; clear n0_ n1_ n2_; (try clear hb); (try clear hkp); (try clear hy0)) | ((with_reducible refine gate_callee (f := 12) rfl ?_); refine goesL_ (some 35) rfl rfl Try.func12 (by kernel_rfl) rfl #[.slice Ao24 t197.length co24, .int .i64 1] rfl (by (try simp only [List.map_toArray, List.map_cons, List.map_nil]); first | done | (rw [show t197.length = t191.length from (Kd.R_reads' HO_5.out).1.symm] <;> rfl) | (go_simp; done) | rfl | (simp only [List.length_drop, List.length_take]; rfl)) ?_; (with_reducible refine (laws_heldNotchS.calls kj3 _ _ t197 1 t198 _ ?side1 ?side2 A17.out).mono ?_); (case side1 => repeat (first | exact (Kd.R_reads' HO_5.out).2.2 | (with_reducible refine Kd.C_alloc ?_ _) | (with_reducible refine Kd.C_drewN ?_ _) | (with_reducible refine Kd.C_drew ?_))); (case side2 => rw [show t197.length = t191.length from (Kd.R_reads' HO_5.out).1.symm]; exact (Kd.R_reads' HO_5.out).2.1); rintro e w' ⟨rfl, ⟨nd, rfl⟩⟩; refine ⟨_, rfl, ?_⟩) | ((with_reducible refine gate_callee (f := 9) rfl ?_); refine goesL_ (some 43) rfl rfl Try.func9 (by kernel_rfl) rfl #[.int .i64 a0] rfl (by (try simp only [List.map_toArray, List.map_cons, List.map_nil]); first | done | (go_simp; done) | rfl | (simp only [List.length_drop, List.length_take]; rfl)) ?_; (with_reducible refine (impl_NotchesFor.calls kj3 a0 t199 t200 _ A22.out).mono ?_); rintro e w26 ⟨v201, rfl, ho0, hb⟩; refine ⟨_, rfl, ?_⟩; have n0_ := Aside0.mk (Kd.R_elder' (by (with_reducible repeat (first | apply Kd.R_alloc | apply Kd.R_drewN | apply Kd.R_drew)); exact HO_3.out) (Kd.R_base ho0) hb); have n1_ := Aside0.mk (Kd.R_elder' (by (with_reducible repeat (first | apply Kd.R_alloc | apply Kd.R_drewN | apply Kd.R_drew)); exact HO_5.out) (Kd.R_base ho0) hb); have n2_ := Aside0.mk (Kd.R_lower (Kd.R_new' (Kd.R_new' ho0 (Kd.R_lt (by (with_reducible repeat (first | apply Kd.R_alloc | apply Kd.R_drewN | apply Kd.R_drew)); exact HO_3.out))) (Kd.R_lt (by (with_reducible repeat (first | apply Kd.R_alloc | apply Kd.R_drewN | apply Kd.R_drew)); exact HO_5.out))) (below_size (by repeat (first | (with_reducible first | exact HB.out | apply below_alloc | apply pw_below_drewN | apply below_drew1) | exact HB.out)))); have n3_ := Aside0.mk (below_step (by repeat (first | (with_reducible first | exact HB.out | apply below_alloc | apply pw_below_drewN | apply below_drew1) | exact HB.out)) hb); clear HO_3; clear HO_5; clear HB; have HO_3 := n0_; have HO_5 := n1_; have HO202 := n2_; have HB := n3_; clear n0_ n1_ n2_ n3_; (try clear hb); (try clear hb2); (try clear hk); (try clear hi); (try clear ho0)))
            (try simp only [Act.put, List.setIfInBounds_toArray, List.set_cons_zero, List.set_cons_succ])
            go_cut [54] (fun v54 wc => ∃ (kq : Nat) (x54_22 : Bool), v54 = .bool x54_22 ∧ Aside0 (laws_FnExactNotchesFor.j1 kq t197 t196 x54_22 = some r) ∧ Aside0 (kq ≤ kj3) ∧ Aside0 (Kd.R k74 74 wc w.heap.size (fun _ => True) (.slice Ao24 t191.length co24) t197) ∧ Aside0 (Below w.heap.size w wc))
            case first =>
              have H := HC23.out
              clear HC23
              replace H := Option.bind_eq_some_iff.mp H
              obtain ⟨t203, A270, H⟩ := H
              replace H : (if t203 = true then (laws_FnExactNotchesFor.j1 kj3 t197 t196 (t200 != t188)) else (laws_FnExactNotchesFor.j1 kj3 t197 t196 true)) = some r := H
              have A27 := Aside0.mk A270
              clear A270
              by_cases c28 : t203 = true
              · subst c28
                have H1 : (laws_FnExactNotchesFor.j1 kj3 t197 t196 (t200 != t188)) = some r := by rw [if_pos rfl] at H; exact H
                clear H
                have H := H1
                clear H1
                have H' := Aside0.mk H
                clear H
                obtain ⟨Ao29, co29, eo29⟩ := Kd.R_slice HO202.out
                subst eo29
                obtain ⟨Ao30, co30, eo30⟩ := Kd.R_slice HO_3.out
                subst eo30
                go_wp2_with (first | ((with_reducible refine gate_callee (f := 10) rfl ?_); refine goesL_ (some 48) rfl rfl Try.func10 (by kernel_rfl) rfl #[.slice Ao29 t199.length co29, .slice Ao30 t187.length co30] rfl (by (try simp only [List.map_toArray, List.map_cons, List.map_nil]); first | done | (go_simp; done) | rfl | (simp only [List.length_drop, List.length_take]; rfl)) ?_; (with_reducible refine (laws_eqNotchS.calls kj3 _ _ t199 _ _ t187 true _ ?side1 ?side2 ?side3 ?side4 A27.out).mono ?_); (case side1 => repeat (first | exact (Kd.R_reads' HO202.out).2.2 | (with_reducible refine Kd.C_alloc ?_ _) | (with_reducible refine Kd.C_drewN ?_ _) | (with_reducible refine Kd.C_drew ?_))); (case side2 => exact (Kd.R_reads' HO202.out).2.1); (case side3 => repeat (first | exact (Kd.R_reads' HO_3.out).2.2 | (with_reducible refine Kd.C_alloc ?_ _) | (with_reducible refine Kd.C_drewN ?_ _) | (with_reducible refine Kd.C_drew ?_))); (case side4 => exact (Kd.R_reads' HO_3.out).2.1); rintro e w31 ⟨rfl, hb⟩; refine ⟨_, rfl, ?_⟩; have n0_ := Aside0.mk (Kd.R_below (by (with_reducible repeat (first | apply Kd.R_alloc | apply Kd.R_drewN | apply Kd.R_drew)); exact HO_3.out) hb); have n1_ := Aside0.mk (Kd.R_below (by (with_reducible repeat (first | apply Kd.R_alloc | apply Kd.R_drewN | apply Kd.R_drew)); exact HO_5.out) hb); have n2_ := Aside0.mk (Kd.R_below (by (with_reducible repeat (first | apply Kd.R_alloc | apply Kd.R_drewN | apply Kd.R_drew)); exact HO202.out) hb); have n3_ := Aside0.mk (below_step (by repeat (first | (with_reducible first | exact HB.out | apply below_alloc | apply pw_below_drewN | apply below_drew1) | exact HB.out)) hb); clear HO_3; clear HO_5; clear HO202; clear HB; have HO_3 := n0_; have HO_5 := n1_; have HO202 := n2_; have HB := n3_; clear n0_ n1_ n2_ n3_; (try clear hb); (try clear hb2); (try clear hk); (try clear hi)))
                go_meet
                case rel => exact ⟨_, ((t200 != t188)), (by first | rfl | (simp; done) | (simp [*]; done)), H', ⟨by have := HJ3.out; first | omega | exact Nat.le_refl _⟩, ⟨by (with_reducible repeat (first | apply Kd.R_alloc | apply Kd.R_drewN | apply Kd.R_drew)); exact Kd.R_mono HO_5.out (fun _ hk => trivial)⟩, ⟨by repeat (first | (with_reducible first | exact HB.out | apply below_alloc | apply pw_below_drewN | apply below_drew1) | exact HB.out)⟩⟩
              · replace c28 := Bool.eq_false_iff.mpr c28
                subst c28
                have H1 : (laws_FnExactNotchesFor.j1 kj3 t197 t196 true) = some r := by rw [if_neg (show ¬ (false = true) by decide)] at H; exact H
                clear H
                have H := H1
                clear H1
                have H' := Aside0.mk H
                clear H
                obtain ⟨Ao32, co32, eo32⟩ := Kd.R_slice HO202.out
                subst eo32
                obtain ⟨Ao33, co33, eo33⟩ := Kd.R_slice HO_3.out
                subst eo33
                go_wp2_with (first | ((with_reducible refine gate_callee (f := 10) rfl ?_); refine goesL_ (some 48) rfl rfl Try.func10 (by kernel_rfl) rfl #[.slice Ao32 t199.length co32, .slice Ao33 t187.length co33] rfl (by (try simp only [List.map_toArray, List.map_cons, List.map_nil]); first | done | (go_simp; done) | rfl | (simp only [List.length_drop, List.length_take]; rfl)) ?_; (with_reducible refine (laws_eqNotchS.calls kj3 _ _ t199 _ _ t187 false _ ?side1 ?side2 ?side3 ?side4 A27.out).mono ?_); (case side1 => repeat (first | exact (Kd.R_reads' HO202.out).2.2 | (with_reducible refine Kd.C_alloc ?_ _) | (with_reducible refine Kd.C_drewN ?_ _) | (with_reducible refine Kd.C_drew ?_))); (case side2 => exact (Kd.R_reads' HO202.out).2.1); (case side3 => repeat (first | exact (Kd.R_reads' HO_3.out).2.2 | (with_reducible refine Kd.C_alloc ?_ _) | (with_reducible refine Kd.C_drewN ?_ _) | (with_reducible refine Kd.C_drew ?_))); (case side4 => exact (Kd.R_reads' HO_3.out).2.1); rintro e w34 ⟨rfl, hb⟩; refine ⟨_, rfl, ?_⟩; have n0_ := Aside0.mk (Kd.R_below (by (with_reducible repeat (first | apply Kd.R_alloc | apply Kd.R_drewN | apply Kd.R_drew)); exact HO_3.out) hb); have n1_ := Aside0.mk (Kd.R_below (by (with_reducible repeat (first | apply Kd.R_alloc | apply Kd.R_drewN | apply Kd.R_drew)); exact HO_5.out) hb); have n2_ := Aside0.mk (Kd.R_below (by (with_reducible repeat (first | apply Kd.R_alloc | apply Kd.R_drewN | apply Kd.R_drew)); exact HO202.out) hb); have n3_ := Aside0.mk (below_step (by repeat (first | (with_reducible first | exact HB.out | apply below_alloc | apply pw_below_drewN | apply below_drew1) | exact HB.out)) hb); clear HO_3; clear HO_5; clear HO202; clear HB; have HO_3 := n0_; have HO_5 := n1_; have HO202 := n2_; have HB := n3_; clear n0_ n1_ n2_ n3_; (try clear hb); (try clear hb2); (try clear hk); (try clear hi)))
                go_meet
                case rel => exact ⟨_, (true), (by first | rfl | (simp; done) | (simp [*]; done)), H', ⟨by have := HJ3.out; first | omega | exact Nat.le_refl _⟩, ⟨by (with_reducible repeat (first | apply Kd.R_alloc | apply Kd.R_drewN | apply Kd.R_drew)); exact Kd.R_mono HO_5.out (fun _ hk => trivial)⟩, ⟨by repeat (first | (with_reducible first | exact HB.out | apply below_alloc | apply pw_below_drewN | apply below_drew1) | exact HB.out)⟩⟩
            case rest =>
              clear HC23
              try clear c1
              try clear c2
              try clear p2
              try clear c3
              try clear c8
              try clear c9
              try clear c10
              try clear c11
              try clear c12
              try clear c15
              try clear c18
              try clear c18b0
              try clear c21
              try clear c21b0
              try clear c21b1
              try clear c28
              try clear p2
              obtain ⟨kq, x54_22, rfl, HA, HJ22, HO_5, HB⟩ := hcut
              have hl5_22 := (Kd.R_reads' HO_5.out).1
              rw [hl5_22] at HO_5
              (try simp only [hl5_22])
              cases kq with
              | zero => exact absurd HA.out (by simp [laws_FnExactNotchesFor.j1])
              | succ kj22 =>
                have H := HA.out
                clear HA
                simp only [laws_FnExactNotchesFor.j1] at H
                by_cases c35 : x54_22 = true
                · subst c35
                  have H1 : (some false) = some r := by rw [if_pos rfl] at H; exact H
                  clear H
                  have H := H1
                  clear H1
                  obtain rfl := Option.some.inj H
                  go_wp2
                  go_ret
                  exact ⟨by first | rfl | (simp [errW_none, errW_some] <;> rfl) | (simp [*, errW_none, errW_some] <;> rfl), by repeat (first | (with_reducible first | exact HB.out | apply below_alloc | apply pw_below_drewN | apply below_drew1) | exact HB.out)⟩
                · replace c35 := Bool.eq_false_iff.mpr c35
                  subst c35
                  have H1 : ((laws_heldNotchS.f kj22 t197 1).bind fun t204 => (if t204 < 0 then (some false) else (if t204 = t196 then (some true) else (some false)))) = some r := by rw [if_neg (show ¬ (false = true) by decide)] at H; exact H
                  clear H
                  have H := H1
                  clear H1
                  replace H := Option.bind_eq_some_iff.mp H
                  obtain ⟨t204, A360, H⟩ := H
                  replace H : (if t204 < 0 then (some false) else (if t204 = t196 then (some true) else (some false))) = some r := H
                  have A36 := Aside0.mk A360
                  clear A360
                  by_cases c37 : t204 < 0
                  · rw [if_pos c37] at H
                    have c37b0 : decide (t204 < 0) = true := decide_eq_true c37
                    clear c37
                    obtain rfl := Option.some.inj H
                    go_wp2_with (first | ((with_reducible refine gate_callee (f := 12) rfl ?_); refine goesL_ (some 57) rfl rfl Try.func12 (by kernel_rfl) rfl #[.slice Ao24 t197.length co24, .int .i64 1] rfl (by (try simp only [List.map_toArray, List.map_cons, List.map_nil]); first | done | (go_simp; done) | rfl | (simp only [List.length_drop, List.length_take]; rfl)) ?_; (with_reducible refine (laws_heldNotchS.calls kj22 _ _ t197 1 t204 _ ?side1 ?side2 A36.out).mono ?_); (case side1 => repeat (first | exact (Kd.R_reads' HO_5.out).2.2 | (with_reducible refine Kd.C_alloc ?_ _) | (with_reducible refine Kd.C_drewN ?_ _) | (with_reducible refine Kd.C_drew ?_))); (case side2 => exact (Kd.R_reads' HO_5.out).2.1); rintro e w' ⟨rfl, ⟨nd, rfl⟩⟩; refine ⟨_, rfl, ?_⟩))
                    go_ret
                    exact ⟨by first | rfl | (simp [errW_none, errW_some] <;> rfl) | (simp [*, errW_none, errW_some] <;> rfl), by repeat (first | (with_reducible first | exact HB.out | apply below_alloc | apply pw_below_drewN | apply below_drew1) | exact HB.out)⟩
                  · rw [if_neg c37] at H
                    have c37b0 : decide (t204 < 0) = false := decide_eq_false c37
                    clear c37
                    by_cases c38 : t204 = t196
                    · rw [if_pos c38] at H
                      have c38b0 : (t204 == t196) = true := beq_iff_eq.mpr c38
                      have c38b1 : (t204 != t196) = false := bne_eq_false_iff_eq.mpr c38
                      clear c38
                      obtain rfl := Option.some.inj H
                      go_wp2_with (first | ((with_reducible refine gate_callee (f := 12) rfl ?_); refine goesL_ (some 57) rfl rfl Try.func12 (by kernel_rfl) rfl #[.slice Ao24 t197.length co24, .int .i64 1] rfl (by (try simp only [List.map_toArray, List.map_cons, List.map_nil]); first | done | (go_simp; done) | rfl | (simp only [List.length_drop, List.length_take]; rfl)) ?_; (with_reducible refine (laws_heldNotchS.calls kj22 _ _ t197 1 t204 _ ?side1 ?side2 A36.out).mono ?_); (case side1 => repeat (first | exact (Kd.R_reads' HO_5.out).2.2 | (with_reducible refine Kd.C_alloc ?_ _) | (with_reducible refine Kd.C_drewN ?_ _) | (with_reducible refine Kd.C_drew ?_))); (case side2 => exact (Kd.R_reads' HO_5.out).2.1); rintro e w' ⟨rfl, ⟨nd, rfl⟩⟩; refine ⟨_, rfl, ?_⟩))
                      go_ret
                      exact ⟨by first | rfl | (simp [errW_none, errW_some] <;> rfl) | (simp [*, errW_none, errW_some] <;> rfl), by repeat (first | (with_reducible first | exact HB.out | apply below_alloc | apply pw_below_drewN | apply below_drew1) | exact HB.out)⟩
                    · rw [if_neg c38] at H
                      have c38b0 : (t204 == t196) = false := beq_eq_false_iff_ne.mpr c38
                      have c38b1 : (t204 != t196) = true := bne_iff_ne.mpr c38
                      obtain rfl := Option.some.inj H
                      go_wp2_with (first | ((with_reducible refine gate_callee (f := 12) rfl ?_); refine goesL_ (some 57) rfl rfl Try.func12 (by kernel_rfl) rfl #[.slice Ao24 t197.length co24, .int .i64 1] rfl (by (try simp only [List.map_toArray, List.map_cons, List.map_nil]); first | done | (go_simp; done) | rfl | (simp only [List.length_drop, List.length_take]; rfl)) ?_; (with_reducible refine (laws_heldNotchS.calls kj22 _ _ t197 1 t204 _ ?side1 ?side2 A36.out).mono ?_); (case side1 => repeat (first | exact (Kd.R_reads' HO_5.out).2.2 | (with_reducible refine Kd.C_alloc ?_ _) | (with_reducible refine Kd.C_drewN ?_ _) | (with_reducible refine Kd.C_drew ?_))); (case side2 => exact (Kd.R_reads' HO_5.out).2.1); rintro e w' ⟨rfl, ⟨nd, rfl⟩⟩; refine ⟨_, rfl, ?_⟩))
                      go_ret
                      exact ⟨by first | rfl | (simp [errW_none, errW_some] <;> rfl) | (simp [*, errW_none, errW_some] <;> rfl), by repeat (first | (with_reducible first | exact HB.out | apply below_alloc | apply pw_below_drewN | apply below_drew1) | exact HB.out)⟩
          · rw [if_neg c21] at H
            have c21b0 : (t198 == t196) = false := beq_eq_false_iff_ne.mpr c21
            have c21b1 : (t198 != t196) = true := bne_iff_ne.mpr c21
            obtain rfl := Option.some.inj H
            obtain ⟨Ao39, co39, eo39⟩ := Kd.R_slice HO_5.out
            subst eo39
            go_wp2_with (first | ((with_reducible refine gate_callee (f := 11) rfl ?_); refine goesL_ (some 32) rfl rfl Try.func11 (by kernel_rfl) rfl #[.slice Ao39 t191.length co39, .int .i64 1] rfl (by (try simp only [List.map_toArray, List.map_cons, List.map_nil]); first | done | (go_simp; done) | rfl | (simp only [List.length_drop, List.length_take]; rfl)) ?_; (with_reducible refine (laws_markNotchS.calls kj3 (fun k_ => some k_ = (.slice Ao39 t191.length co39 : Value).ownBlock) (.slice Ao39 t191.length co39) t191 1 t196 t197 w _ ?side1 ?side2 A16.out).mono ?_); (case side1 => repeat (first | (with_reducible first | exact HB.out | apply below_alloc | apply pw_below_drewN | apply below_drew1) | exact HB.out)); (case side2 => exact Kd.R_tight rfl HO_5.out); rintro e w40 ⟨rfl, hy0, hb, hkp⟩; refine ⟨_, rfl, ?_⟩; have n0_ := Aside0.mk (Kd.R_mono (ok' := fun k_ => some k_ ≠ (.slice Ao39 t191.length co39 : Value).ownBlock) (Kd.R_keptB (HO_3.out) hkp (fun k_ hk_ hs_ => (hk_) hs_)) (fun k_ hk_ => hk_.1)); have n1_ := Aside0.mk (Kd.R_reok rfl hy0 (fun k_ e_ => HO_5.out.1 k_ e_)); have n2_ := Aside0.mk (hb); clear HO_3; clear HO_5; clear HB; have HO_3 := n0_; have HO_5 := n1_; have HB := n2_; clear n0_ n1_ n2_; (try clear hb); (try clear hkp); (try clear hy0)) | ((with_reducible refine gate_callee (f := 12) rfl ?_); refine goesL_ (some 35) rfl rfl Try.func12 (by kernel_rfl) rfl #[.slice Ao39 t197.length co39, .int .i64 1] rfl (by (try simp only [List.map_toArray, List.map_cons, List.map_nil]); first | done | (rw [show t197.length = t191.length from (Kd.R_reads' HO_5.out).1.symm] <;> rfl) | (go_simp; done) | rfl | (simp only [List.length_drop, List.length_take]; rfl)) ?_; (with_reducible refine (laws_heldNotchS.calls kj3 _ _ t197 1 t198 _ ?side1 ?side2 A17.out).mono ?_); (case side1 => repeat (first | exact (Kd.R_reads' HO_5.out).2.2 | (with_reducible refine Kd.C_alloc ?_ _) | (with_reducible refine Kd.C_drewN ?_ _) | (with_reducible refine Kd.C_drew ?_))); (case side2 => rw [show t197.length = t191.length from (Kd.R_reads' HO_5.out).1.symm]; exact (Kd.R_reads' HO_5.out).2.1); rintro e w' ⟨rfl, ⟨nd, rfl⟩⟩; refine ⟨_, rfl, ?_⟩))
            go_ret
            exact ⟨by first | rfl | (simp [errW_none, errW_some] <;> rfl) | (simp [*, errW_none, errW_some] <;> rfl), by repeat (first | (with_reducible first | exact HB.out | apply below_alloc | apply pw_below_drewN | apply below_drew1) | exact HB.out)⟩

/-- THE ONE PURE STATEMENT of laws_FnExactNotchesFor: yours. -/
def laws_FnExactNotchesFor.Pure : Prop := ∀ (a0 : Int), (Lit.int .i64 a0).wf = true → ∃ k, laws_FnExactNotchesFor.f k a0 = some true
theorem laws_FnExactNotchesFor.walk (P : laws_FnExactNotchesFor.Pure) (a0 : Int) (w : World) (w0 : (Lit.int .i64 a0).wf = true) :
    Calls Try.prog 3 #[.int .i64 a0] w fun e w' => e = .returned (.bool true) ∧ Below w.heap.size w w' := by
  obtain ⟨k, h⟩ := P a0 w0
  refine (laws_FnExactNotchesFor.calls k a0 true w h).mono ?_
  rintro e w' ⟨rfl, hd⟩
  exact ⟨rfl, hd⟩

end Go.Proofs.Ytaodkhgffjnfoaa.MNotchesFor
