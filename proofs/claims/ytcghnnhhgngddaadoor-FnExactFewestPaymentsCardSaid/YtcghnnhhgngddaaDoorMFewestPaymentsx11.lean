-- by a program of this session, for this claim
import Derived.Test.YtcghnnhhgngddaaDoorMFewestPaymentsx0
import Derived.Test.YtcghnnhhgngddaaDoorMFewestPaymentsx1
import Derived.Test.YtcghnnhhgngddaaDoorMFewestPaymentsx5
import Derived.Test.YtcghnnhhgngddaaDoorMFewestPaymentsx9
import Derived.Test.YtcghnnhhgngddaaDoorMFewestPaymentsx10
namespace Go.Proofs.YtcghnnhhgngddaaDoor.MFewestPayments
open Go.RowKit Go.Proofs.YtcghnnhhgngddaaDoorW.PrintWords Go.Proofs.YtcghnnhhgngddaaDoorW.PrintLast Go.Proofs.YtcghnnhhgngddaaDoorW.PrintMore
attribute [local go_sem] max2_int min2_int max_two min_two max_three min_three max_four min_four   -- for this text's walks alone
set_option linter.unusedVariables false
set_option linter.unusedSimpArgs false

/-! ### laws_FnExactFewestPayments: function 4 -/
mutual
def laws_FnExactFewestPayments.j0 : Nat → List Int → List (S55) → Int → List Int → List (S55) → Int → Bool → Option (Bool)
  | 0, _, _, _, _, _, _, _ => none
  | k + 1, x0, x3, x4, x5, x6, x7, x37 => if x37 = true then (some false) else ((laws_toInt64S.f k x0).bind fun t345 => ((laws_eqInt64S.f k x5 t345).bind fun t348 => (if t348 = true then ((laws_markInt64S.f k x5 1).bind fun bt349 => (if bt349.1 < 0 then (laws_FnExactFewestPayments.j1 k x0 x3 x4 x6 true) else ((laws_eqDebtS.f k x6 x3).bind fun t351 => (if t351 = true then (laws_FnExactFewestPayments.j1 k x0 x3 x4 x6 (x7 != x4)) else (laws_FnExactFewestPayments.j1 k x0 x3 x4 x6 true))))) else (some false))))
def laws_FnExactFewestPayments.j1 : Nat → List Int → List (S55) → Int → List (S55) → Bool → Option (Bool)
  | 0, _, _, _, _, _ => none
  | k + 1, x0, x3, x4, x6, x58 => if x58 = true then (some false) else ((laws_markDebtS.f k x6 1).bind fun bt352 => ((laws_heldDebtS.f k bt352.2 1).bind fun t354 => (if t354 < 0 then (some false) else (if t354 = bt352.1 then ((laws_toInt64S.f k x0).bind fun t355 => ((impl_FewestPayments.f k t355).bind fun bt358 => ((laws_eqDebtS.f k bt358.1 x3).bind fun t362 => (if t362 = true then (laws_FnExactFewestPayments.j2 k bt352.2 bt352.1 (bt358.2 != x4)) else (laws_FnExactFewestPayments.j2 k bt352.2 bt352.1 true))))) else (some false)))))
def laws_FnExactFewestPayments.j2 : Nat → List (S55) → Int → Bool → Option (Bool)
  | 0, _, _, _ => none
  | k + 1, x6, x9, x84 => if x84 = true then (some false) else ((laws_heldDebtS.f k x6 1).bind fun t363 => (if t363 < 0 then (some false) else (if t363 = x9 then (some true) else (some false))))
end
def laws_FnExactFewestPayments.f (k : Nat) (l0 : List Int) : Option (Bool) := if (l0.length : Int) > 1048576 then (some true) else ((laws_toInt64S.f k l0).bind fun t330 => ((spec_FewestPayments.f k t330).bind fun bt333 => ((laws_toInt64S.f k l0).bind fun t337 => ((impl_FewestPayments.f k t337).bind fun bt340 => ((laws_eqDebtS.f k bt340.1 bt333.1).bind fun t344 => (if t344 = true then (laws_FnExactFewestPayments.j0 k l0 bt333.1 bt333.2 t337 bt340.1 bt340.2 (bt340.2 != bt333.2)) else (laws_FnExactFewestPayments.j0 k l0 bt333.1 bt333.2 t337 bt340.1 bt340.2 true)))))))
theorem laws_FnExactFewestPayments.mono_l : ∀ k, (∀ y0 y1 y2 y3 y4 y5 y6, LeO (laws_FnExactFewestPayments.j0 k y0 y1 y2 y3 y4 y5 y6) (laws_FnExactFewestPayments.j0 (k + 1) y0 y1 y2 y3 y4 y5 y6)) ∧ (∀ y0 y1 y2 y3 y4, LeO (laws_FnExactFewestPayments.j1 k y0 y1 y2 y3 y4) (laws_FnExactFewestPayments.j1 (k + 1) y0 y1 y2 y3 y4)) ∧ (∀ y0 y1 y2, LeO (laws_FnExactFewestPayments.j2 k y0 y1 y2) (laws_FnExactFewestPayments.j2 (k + 1) y0 y1 y2))
  | 0 => ⟨fun _ _ _ _ _ _ _ r h => by simp [laws_FnExactFewestPayments.j0] at h, fun _ _ _ _ _ r h => by simp [laws_FnExactFewestPayments.j1] at h, fun _ _ _ r h => by simp [laws_FnExactFewestPayments.j2] at h⟩
  | k + 1 => by
    obtain ⟨ih0, ih1, ih2⟩ := laws_FnExactFewestPayments.mono_l k
    refine ⟨?_, ?_, ?_⟩
    · intro y0 y1 y2 y3 y4 y5 y6
      unfold laws_FnExactFewestPayments.j0
      repeat' first
      | (with_reducible exact ih0 _ _ _ _ _ _ _)
      | (with_reducible exact ih1 _ _ _ _ _)
      | (with_reducible exact ih2 _ _ _)
      | (with_reducible exact impl_FewestPayments.mono _ _)
      | (with_reducible exact laws_eqDebtS.mono _ _ _)
      | (with_reducible exact laws_eqInt64S.mono _ _ _)
      | (with_reducible exact laws_heldDebtS.mono _ _ _)
      | (with_reducible exact laws_markDebtS.mono _ _ _)
      | (with_reducible exact laws_markInt64S.mono _ _ _)
      | (with_reducible exact laws_toInt64S.mono _ _)
      | (with_reducible exact spec_FewestPayments.mono _ _)
      | (with_reducible exact LeO.refl _)
      | (with_reducible exact LeO.none _)
      | (with_reducible refine LeO.ite ?_ ?_)
      | (with_reducible refine LeO.bind ?_ (fun _ => ?_))
      | exact ih0 _ _ _ _ _ _ _
      | exact ih1 _ _ _ _ _
      | exact ih2 _ _ _
      | exact impl_FewestPayments.mono _ _
      | exact laws_eqDebtS.mono _ _ _
      | exact laws_eqInt64S.mono _ _ _
      | exact laws_heldDebtS.mono _ _ _
      | exact laws_markDebtS.mono _ _ _
      | exact laws_markInt64S.mono _ _ _
      | exact laws_toInt64S.mono _ _
      | exact spec_FewestPayments.mono _ _
      | exact LeO.none _
      | refine LeO.ite ?_ ?_
      | refine LeO.bind ?_ (fun _ => ?_)
    · intro y0 y1 y2 y3 y4
      unfold laws_FnExactFewestPayments.j1
      repeat' first
      | (with_reducible exact ih0 _ _ _ _ _ _ _)
      | (with_reducible exact ih1 _ _ _ _ _)
      | (with_reducible exact ih2 _ _ _)
      | (with_reducible exact impl_FewestPayments.mono _ _)
      | (with_reducible exact laws_eqDebtS.mono _ _ _)
      | (with_reducible exact laws_eqInt64S.mono _ _ _)
      | (with_reducible exact laws_heldDebtS.mono _ _ _)
      | (with_reducible exact laws_markDebtS.mono _ _ _)
      | (with_reducible exact laws_markInt64S.mono _ _ _)
      | (with_reducible exact laws_toInt64S.mono _ _)
      | (with_reducible exact spec_FewestPayments.mono _ _)
      | (with_reducible exact LeO.refl _)
      | (with_reducible exact LeO.none _)
      | (with_reducible refine LeO.ite ?_ ?_)
      | (with_reducible refine LeO.bind ?_ (fun _ => ?_))
      | exact ih0 _ _ _ _ _ _ _
      | exact ih1 _ _ _ _ _
      | exact ih2 _ _ _
      | exact impl_FewestPayments.mono _ _
      | exact laws_eqDebtS.mono _ _ _
      | exact laws_eqInt64S.mono _ _ _
      | exact laws_heldDebtS.mono _ _ _
      | exact laws_markDebtS.mono _ _ _
      | exact laws_markInt64S.mono _ _ _
      | exact laws_toInt64S.mono _ _
      | exact spec_FewestPayments.mono _ _
      | exact LeO.none _
      | refine LeO.ite ?_ ?_
      | refine LeO.bind ?_ (fun _ => ?_)
    · intro y0 y1 y2
      unfold laws_FnExactFewestPayments.j2
      repeat' first
      | (with_reducible exact ih0 _ _ _ _ _ _ _)
      | (with_reducible exact ih1 _ _ _ _ _)
      | (with_reducible exact ih2 _ _ _)
      | (with_reducible exact impl_FewestPayments.mono _ _)
      | (with_reducible exact laws_eqDebtS.mono _ _ _)
      | (with_reducible exact laws_eqInt64S.mono _ _ _)
      | (with_reducible exact laws_heldDebtS.mono _ _ _)
      | (with_reducible exact laws_markDebtS.mono _ _ _)
      | (with_reducible exact laws_markInt64S.mono _ _ _)
      | (with_reducible exact laws_toInt64S.mono _ _)
      | (with_reducible exact spec_FewestPayments.mono _ _)
      | (with_reducible exact LeO.refl _)
      | (with_reducible exact LeO.none _)
      | (with_reducible refine LeO.ite ?_ ?_)
      | (with_reducible refine LeO.bind ?_ (fun _ => ?_))
      | exact ih0 _ _ _ _ _ _ _
      | exact ih1 _ _ _ _ _
      | exact ih2 _ _ _
      | exact impl_FewestPayments.mono _ _
      | exact laws_eqDebtS.mono _ _ _
      | exact laws_eqInt64S.mono _ _ _
      | exact laws_heldDebtS.mono _ _ _
      | exact laws_markDebtS.mono _ _ _
      | exact laws_markInt64S.mono _ _ _
      | exact laws_toInt64S.mono _ _
      | exact spec_FewestPayments.mono _ _
      | exact LeO.none _
      | refine LeO.ite ?_ ?_
      | refine LeO.bind ?_ (fun _ => ?_)
theorem laws_FnExactFewestPayments.mono : ∀ a0 k, LeO (laws_FnExactFewestPayments.f k a0) (laws_FnExactFewestPayments.f (k + 1) a0) := by
  intro a0 k
  obtain ⟨ih0, ih1, ih2⟩ := laws_FnExactFewestPayments.mono_l k
  unfold laws_FnExactFewestPayments.f
  repeat' first
      | (with_reducible exact ih0 _ _ _ _ _ _ _)
      | (with_reducible exact ih1 _ _ _ _ _)
      | (with_reducible exact ih2 _ _ _)
      | (with_reducible exact impl_FewestPayments.mono _ _)
      | (with_reducible exact laws_eqDebtS.mono _ _ _)
      | (with_reducible exact laws_eqInt64S.mono _ _ _)
      | (with_reducible exact laws_heldDebtS.mono _ _ _)
      | (with_reducible exact laws_markDebtS.mono _ _ _)
      | (with_reducible exact laws_markInt64S.mono _ _ _)
      | (with_reducible exact laws_toInt64S.mono _ _)
      | (with_reducible exact spec_FewestPayments.mono _ _)
      | (with_reducible exact LeO.refl _)
      | (with_reducible exact LeO.none _)
      | (with_reducible refine LeO.ite ?_ ?_)
      | (with_reducible refine LeO.bind ?_ (fun _ => ?_))
      | exact ih0 _ _ _ _ _ _ _
      | exact ih1 _ _ _ _ _
      | exact ih2 _ _ _
      | exact impl_FewestPayments.mono _ _
      | exact laws_eqDebtS.mono _ _ _
      | exact laws_eqInt64S.mono _ _ _
      | exact laws_heldDebtS.mono _ _ _
      | exact laws_markDebtS.mono _ _ _
      | exact laws_markInt64S.mono _ _ _
      | exact laws_toInt64S.mono _ _
      | exact spec_FewestPayments.mono _ _
      | exact LeO.none _
      | refine LeO.ite ?_ ?_
      | refine LeO.bind ?_ (fun _ => ?_)
set_option maxHeartbeats 8000000 in
set_option maxRecDepth 100000 in
theorem laws_FnExactFewestPayments.calls (k : Nat) (A0 : Option Addr) (c0 : Nat) (l0 : List Int) (r : Bool) (w : World) (hr0 : Kd.C (Kd.int .i64) w A0 l0.length l0) (hc0 : l0.length ≤ c0) (hT : Tt.TT w) (h : laws_FnExactFewestPayments.f k l0 = some r) (ht : r = true) :
    Calls Tryd.prog 4 #[.slice A0 l0.length c0] w fun e w' => e = .returned (.bool r) ∧ Below w.heap.size w w' := by
  have HR0 := Aside0.mk hr0
  have HC0 := Aside0.mk hc0
  clear hr0 hc0
  have HB := Aside0.mk (Below.refl w.heap.size w)
  have H : (if (l0.length : Int) > 1048576 then (some true) else ((laws_toInt64S.f k l0).bind fun t330 => ((spec_FewestPayments.f k t330).bind fun bt333 => ((laws_toInt64S.f k l0).bind fun t337 => ((impl_FewestPayments.f k t337).bind fun bt340 => ((laws_eqDebtS.f k bt340.1 bt333.1).bind fun t344 => (if t344 = true then (laws_FnExactFewestPayments.j0 k l0 bt333.1 bt333.2 t337 bt340.1 bt340.2 (bt340.2 != bt333.2)) else (laws_FnExactFewestPayments.j0 k l0 bt333.1 bt333.2 t337 bt340.1 bt340.2 true)))))))) = some r := h
  clear h
  by_cases c2 : (l0.length : Int) > 1048576
  · rw [if_pos c2] at H
    have c2b0 : decide (1048576 < (l0.length : Int)) = true := decide_eq_true c2
    have c2b1 : decide (1048576 < l0.length) = true := decide_eq_true (by omega)
    clear c2
    as_aux_lemma =>
      obtain rfl := Option.some.inj H
      go_enter Tryd.func4, Tryd.ntmps4
      go_wp2
      go_ret
      exact ⟨by first | rfl | (simp [errW_none, errW_some] <;> rfl) | (simp [*, errW_none, errW_some] <;> rfl), by repeat (first | (with_reducible first | exact HB.out | apply below_alloc | apply pw_below_drewN | apply below_drew1) | exact HB.out)⟩
  · rw [if_neg c2] at H
    have c2b0 : decide (1048576 < (l0.length : Int)) = false := decide_eq_false c2
    have c2b1 : decide (1048576 < l0.length) = false := decide_eq_false (by omega)
    clear c2
    replace H := Option.bind_eq_some_iff.mp H
    obtain ⟨t330, A30, H⟩ := H
    replace H : ((spec_FewestPayments.f k t330).bind fun bt333 => ((laws_toInt64S.f k l0).bind fun t337 => ((impl_FewestPayments.f k t337).bind fun bt340 => ((laws_eqDebtS.f k bt340.1 bt333.1).bind fun t344 => (if t344 = true then (laws_FnExactFewestPayments.j0 k l0 bt333.1 bt333.2 t337 bt340.1 bt340.2 (bt340.2 != bt333.2)) else (laws_FnExactFewestPayments.j0 k l0 bt333.1 bt333.2 t337 bt340.1 bt340.2 true)))))) = some r := H
    have A3 := Aside0.mk A30
    clear A30
    replace H := Option.bind_eq_some_iff.mp H
    obtain ⟨⟨t333, t334⟩, A40, H⟩ := H
    replace H : ((laws_toInt64S.f k l0).bind fun t337 => ((impl_FewestPayments.f k t337).bind fun bt340 => ((laws_eqDebtS.f k bt340.1 t333).bind fun t344 => (if t344 = true then (laws_FnExactFewestPayments.j0 k l0 t333 t334 t337 bt340.1 bt340.2 (bt340.2 != t334)) else (laws_FnExactFewestPayments.j0 k l0 t333 t334 t337 bt340.1 bt340.2 true))))) = some r := H
    have A4 := Aside0.mk A40
    clear A40
    replace H := Option.bind_eq_some_iff.mp H
    obtain ⟨t337, A50, H⟩ := H
    replace H : ((impl_FewestPayments.f k t337).bind fun bt340 => ((laws_eqDebtS.f k bt340.1 t333).bind fun t344 => (if t344 = true then (laws_FnExactFewestPayments.j0 k l0 t333 t334 t337 bt340.1 bt340.2 (bt340.2 != t334)) else (laws_FnExactFewestPayments.j0 k l0 t333 t334 t337 bt340.1 bt340.2 true)))) = some r := H
    have A5 := Aside0.mk A50
    clear A50
    replace H := Option.bind_eq_some_iff.mp H
    obtain ⟨⟨t340, t341⟩, A60, H⟩ := H
    replace H : ((laws_eqDebtS.f k t340 t333).bind fun t344 => (if t344 = true then (laws_FnExactFewestPayments.j0 k l0 t333 t334 t337 t340 t341 (t341 != t334)) else (laws_FnExactFewestPayments.j0 k l0 t333 t334 t337 t340 t341 true))) = some r := H
    have A6 := Aside0.mk A60
    clear A60
    have HC7 := Aside0.mk H
    clear H
    go_enter Tryd.func4, Tryd.ntmps4
    go_upto_region 6 with (first | ((with_reducible refine gate_callee (f := 7) rfl ?_); refine goesL_ (some 18) rfl rfl Tryd.func7 (by kernel_rfl) rfl #[.slice A0 l0.length c0] rfl (by (try simp only [List.map_toArray, List.map_cons, List.map_nil]); first | done | (go_simp; done) | rfl | (simp only [List.length_drop, List.length_take]; rfl)) ?_; (with_reducible refine (laws_toInt64S.calls k _ _ l0 t330 _ ?side1 ?side2 A3.out).mono ?_); (case side1 => repeat (first | exact HR0.out | (with_reducible refine Kd.C_alloc ?_ _) | (with_reducible refine Kd.C_drewN ?_ _) | (with_reducible refine Kd.C_drew ?_))); (case side2 => exact HC0.out); rintro e w8 ⟨v331, rfl, ho0, hb⟩; refine ⟨_, rfl, ?_⟩; have n0_ := Aside0.mk (Kd.R_lower ho0 (below_size (by repeat (first | (with_reducible first | exact HB.out | apply below_alloc | apply pw_below_drewN | apply below_drew1) | exact HB.out)))); have n1_ := Aside0.mk (below_step (by repeat (first | (with_reducible first | exact HB.out | apply below_alloc | apply pw_below_drewN | apply below_drew1) | exact HB.out)) hb); clear HB; have HO332 := n0_; have HB := n1_; clear n0_ n1_; (try clear hb); (try clear hb2); (try clear hk); (try clear hi); (try clear ho0); obtain ⟨Ao9, co9, eo9⟩ := Kd.R_slice HO332.out; subst eo9) | ((with_reducible refine gate_callee (f := 10) rfl ?_); refine goesL_ (some 19) rfl rfl Tryd.func10 (by kernel_rfl) rfl #[.slice Ao9 t330.length co9] rfl (by (try simp only [List.map_toArray, List.map_cons, List.map_nil]); first | done | (go_simp; done) | rfl | (simp only [List.length_drop, List.length_take]; rfl)) ?_; (with_reducible refine (spec_FewestPayments.calls k _ _ t330 t333 t334 _ ?side1 ?side2 A4.out).mono ?_); (case side1 => repeat (first | exact (Kd.R_reads' HO332.out).2.2 | (with_reducible refine Kd.C_alloc ?_ _) | (with_reducible refine Kd.C_drewN ?_ _) | (with_reducible refine Kd.C_drew ?_))); (case side2 => exact (Kd.R_reads' HO332.out).2.1); rintro e w10 ⟨v335, rfl, ho0, hb⟩; refine ⟨_, rfl, ?_⟩; have n0_ := Aside0.mk (Kd.R_below (by (with_reducible repeat (first | apply Kd.R_alloc | apply Kd.R_drewN | apply Kd.R_drew)); exact HO332.out) hb); have n1_ := Aside0.mk (Kd.R_lower ho0 (below_size (by repeat (first | (with_reducible first | exact HB.out | apply below_alloc | apply pw_below_drewN | apply below_drew1) | exact HB.out)))); have n2_ := Aside0.mk (below_step (by repeat (first | (with_reducible first | exact HB.out | apply below_alloc | apply pw_below_drewN | apply below_drew1) | exact HB.out)) hb); clear HO332; clear HB; have HO332 := n0_; have HO336 := n1_; have HB := n2_; clear n0_ n1_ n2_; (try clear hb); (try clear hb2); (try clear hk); (try clear hi); (try clear ho0)) | ((with_reducible refine gate_callee (f := 7) rfl ?_); refine goesL_ (some 23) rfl rfl Tryd.func7 (by kernel_rfl) rfl #[.slice A0 l0.length c0] rfl (by (try simp only [List.map_toArray, List.map_cons, List.map_nil]); first | done | (go_simp; done) | rfl | (simp only [List.length_drop, List.length_take]; rfl)) ?_; (with_reducible refine (laws_toInt64S.calls k _ _ l0 t337 _ ?side1 ?side2 A5.out).mono ?_); (case side1 => repeat (first | exact (Kd.C_below HR0.out HB.out) | (with_reducible refine Kd.C_alloc ?_ _) | (with_reducible refine Kd.C_drewN ?_ _) | (with_reducible refine Kd.C_drew ?_))); (case side2 => exact HC0.out); rintro e w11 ⟨v338, rfl, ho0, hb⟩; refine ⟨_, rfl, ?_⟩; have n0_ := Aside0.mk (Kd.R_elder' (by (with_reducible repeat (first | apply Kd.R_alloc | apply Kd.R_drewN | apply Kd.R_drew)); exact HO332.out) (Kd.R_base ho0) hb); have n1_ := Aside0.mk (Kd.R_below (by (with_reducible repeat (first | apply Kd.R_alloc | apply Kd.R_drewN | apply Kd.R_drew)); exact HO336.out) hb); have n2_ := Aside0.mk (Kd.R_lower (Kd.R_new' ho0 (Kd.R_lt (by (with_reducible repeat (first | apply Kd.R_alloc | apply Kd.R_drewN | apply Kd.R_drew)); exact HO332.out))) (below_size (by repeat (first | (with_reducible first | exact HB.out | apply below_alloc | apply pw_below_drewN | apply below_drew1) | exact HB.out)))); have n3_ := Aside0.mk (below_step (by repeat (first | (with_reducible first | exact HB.out | apply below_alloc | apply pw_below_drewN | apply below_drew1) | exact HB.out)) hb); clear HO332; clear HO336; clear HB; have HO332 := n0_; have HO336 := n1_; have HO339 := n2_; have HB := n3_; clear n0_ n1_ n2_ n3_; (try clear hb); (try clear hb2); (try clear hk); (try clear hi); (try clear ho0); obtain ⟨Ao12, co12, eo12⟩ := Kd.R_slice HO339.out; subst eo12) | ((with_reducible refine gate_callee (f := 11) rfl ?_); refine goesL_ (some 26) rfl rfl Tryd.func11 (by kernel_rfl) rfl #[.slice Ao12 t337.length co12] rfl (by (try simp only [List.map_toArray, List.map_cons, List.map_nil]); first | done | (go_simp; done) | rfl | (simp only [List.length_drop, List.length_take]; rfl)) ?_; (with_reducible refine (impl_FewestPayments.calls k _ _ t337 t340 t341 _ ?side1 ?side2 ?side3 A6.out).mono ?_); (case side1 => repeat (first | exact (Kd.R_reads' HO339.out).2.2 | (with_reducible refine Kd.C_alloc ?_ _) | (with_reducible refine Kd.C_drewN ?_ _) | (with_reducible refine Kd.C_drew ?_))); (case side2 => exact (Kd.R_reads' HO339.out).2.1); (case side3 => first | exact hT | exact Tt.TT_on hT (by repeat (first | (with_reducible first | exact HB.out | apply below_alloc | apply pw_below_drewN | apply below_drew1) | exact HB.out))); rintro e w13 ⟨v342, rfl, ho0, hb⟩; refine ⟨_, rfl, ?_⟩; have n0_ := Aside0.mk (Kd.R_below (by (with_reducible repeat (first | apply Kd.R_alloc | apply Kd.R_drewN | apply Kd.R_drew)); exact HO332.out) hb); have n1_ := Aside0.mk (Kd.R_elder' (by (with_reducible repeat (first | apply Kd.R_alloc | apply Kd.R_drewN | apply Kd.R_drew)); exact HO336.out) (Kd.R_base ho0) hb); have n2_ := Aside0.mk (Kd.R_below (by (with_reducible repeat (first | apply Kd.R_alloc | apply Kd.R_drewN | apply Kd.R_drew)); exact HO339.out) hb); have n3_ := Aside0.mk (Kd.R_lower (Kd.R_new' ho0 (Kd.R_lt (by (with_reducible repeat (first | apply Kd.R_alloc | apply Kd.R_drewN | apply Kd.R_drew)); exact HO336.out))) (below_size (by repeat (first | (with_reducible first | exact HB.out | apply below_alloc | apply pw_below_drewN | apply below_drew1) | exact HB.out)))); have n4_ := Aside0.mk (below_step (by repeat (first | (with_reducible first | exact HB.out | apply below_alloc | apply pw_below_drewN | apply below_drew1) | exact HB.out)) hb); clear HO332; clear HO336; clear HO339; clear HB; have HO332 := n0_; have HO336 := n1_; have HO339 := n2_; have HO343 := n3_; have HB := n4_; clear n0_ n1_ n2_ n3_ n4_; (try clear hb); (try clear hb2); (try clear hk); (try clear hi); (try clear ho0)))
    (try simp only [Act.put, List.setIfInBounds_toArray, List.set_cons_zero, List.set_cons_succ])
    go_cut [37] (fun v37 wc => ∃ (kq : Nat) (x37_6 : Bool), v37 = .bool x37_6 ∧ Aside0 (laws_FnExactFewestPayments.j0 kq l0 t333 t334 t337 t340 t341 x37_6 = some r) ∧ Aside0 (kq ≤ k) ∧ Aside0 (Kd.R k55 55 wc w.heap.size (fun k_ => some k_ ≠ (v342 : Value).ownBlock) v335 t333) ∧ Aside0 (Kd.R (Kd.int .i64) 2 wc w.heap.size (fun _ => True) (.slice Ao12 t337.length co12) t337) ∧ Aside0 (Kd.R k55 55 wc w.heap.size (fun k_ => some k_ ≠ (v335 : Value).ownBlock) v342 t340) ∧ Aside0 (Below w.heap.size w wc))
    case first =>
      have H := HC7.out
      clear HC7
      replace H := Option.bind_eq_some_iff.mp H
      obtain ⟨t344, A140, H⟩ := H
      replace H : (if t344 = true then (laws_FnExactFewestPayments.j0 k l0 t333 t334 t337 t340 t341 (t341 != t334)) else (laws_FnExactFewestPayments.j0 k l0 t333 t334 t337 t340 t341 true)) = some r := H
      have A14 := Aside0.mk A140
      clear A140
      by_cases c15 : t344 = true
      · subst c15
        have H1 : (laws_FnExactFewestPayments.j0 k l0 t333 t334 t337 t340 t341 (t341 != t334)) = some r := by rw [if_pos rfl] at H; exact H
        clear H
        have H := H1
        clear H1
        as_aux_lemma =>
          have H' := Aside0.mk H
          clear H
          obtain ⟨Ao16, co16, eo16⟩ := Kd.R_slice HO343.out
          subst eo16
          obtain ⟨Ao17, co17, eo17⟩ := Kd.R_slice HO336.out
          subst eo17
          go_wp2_with (first | ((with_reducible refine gate_callee (f := 12) rfl ?_); refine goesL_ (some 31) rfl rfl Tryd.func12 (by kernel_rfl) rfl #[.slice Ao16 t340.length co16, .slice Ao17 t333.length co17] rfl (by (try simp only [List.map_toArray, List.map_cons, List.map_nil]); first | done | (go_simp; done) | rfl | (simp only [List.length_drop, List.length_take]; rfl)) ?_; (with_reducible refine (laws_eqDebtS.calls k _ _ t340 _ _ t333 true _ ?side1 ?side2 ?side3 ?side4 A14.out).mono ?_); (case side1 => repeat (first | exact (Kd.R_reads' HO343.out).2.2 | (with_reducible refine Kd.C_alloc ?_ _) | (with_reducible refine Kd.C_drewN ?_ _) | (with_reducible refine Kd.C_drew ?_))); (case side2 => exact (Kd.R_reads' HO343.out).2.1); (case side3 => repeat (first | exact (Kd.R_reads' HO336.out).2.2 | (with_reducible refine Kd.C_alloc ?_ _) | (with_reducible refine Kd.C_drewN ?_ _) | (with_reducible refine Kd.C_drew ?_))); (case side4 => exact (Kd.R_reads' HO336.out).2.1); rintro e w18 ⟨rfl, hb⟩; refine ⟨_, rfl, ?_⟩; have n0_ := Aside0.mk (Kd.R_below (by (with_reducible repeat (first | apply Kd.R_alloc | apply Kd.R_drewN | apply Kd.R_drew)); exact HO332.out) hb); have n1_ := Aside0.mk (Kd.R_below (by (with_reducible repeat (first | apply Kd.R_alloc | apply Kd.R_drewN | apply Kd.R_drew)); exact HO336.out) hb); have n2_ := Aside0.mk (Kd.R_below (by (with_reducible repeat (first | apply Kd.R_alloc | apply Kd.R_drewN | apply Kd.R_drew)); exact HO339.out) hb); have n3_ := Aside0.mk (Kd.R_below (by (with_reducible repeat (first | apply Kd.R_alloc | apply Kd.R_drewN | apply Kd.R_drew)); exact HO343.out) hb); have n4_ := Aside0.mk (below_step (by repeat (first | (with_reducible first | exact HB.out | apply below_alloc | apply pw_below_drewN | apply below_drew1) | exact HB.out)) hb); clear HO332; clear HO336; clear HO339; clear HO343; clear HB; have HO332 := n0_; have HO336 := n1_; have HO339 := n2_; have HO343 := n3_; have HB := n4_; clear n0_ n1_ n2_ n3_ n4_; (try clear hb); (try clear hb2); (try clear hk); (try clear hi)))
          go_meet
          case rel => exact ⟨_, ((t341 != t334)), (by first | rfl | (simp; done) | (simp [*]; done)), H', ⟨by first | omega | exact Nat.le_refl _⟩, ⟨by (with_reducible repeat (first | apply Kd.R_alloc | apply Kd.R_drewN | apply Kd.R_drew)); exact Kd.R_mono HO336.out (fun _ hk => hk.2)⟩, ⟨by (with_reducible repeat (first | apply Kd.R_alloc | apply Kd.R_drewN | apply Kd.R_drew)); exact Kd.R_mono HO339.out (fun _ hk => trivial)⟩, ⟨by (with_reducible repeat (first | apply Kd.R_alloc | apply Kd.R_drewN | apply Kd.R_drew)); exact Kd.R_mono HO343.out (fun _ hk => hk.2)⟩, ⟨by repeat (first | (with_reducible first | exact HB.out | apply below_alloc | apply pw_below_drewN | apply below_drew1) | exact HB.out)⟩⟩
      · replace c15 := Bool.eq_false_iff.mpr c15
        subst c15
        have H1 : (laws_FnExactFewestPayments.j0 k l0 t333 t334 t337 t340 t341 true) = some r := by rw [if_neg (show ¬ (false = true) by decide)] at H; exact H
        clear H
        have H := H1
        clear H1
        as_aux_lemma =>
          have H' := Aside0.mk H
          clear H
          obtain ⟨Ao19, co19, eo19⟩ := Kd.R_slice HO343.out
          subst eo19
          obtain ⟨Ao20, co20, eo20⟩ := Kd.R_slice HO336.out
          subst eo20
          go_wp2_with (first | ((with_reducible refine gate_callee (f := 12) rfl ?_); refine goesL_ (some 31) rfl rfl Tryd.func12 (by kernel_rfl) rfl #[.slice Ao19 t340.length co19, .slice Ao20 t333.length co20] rfl (by (try simp only [List.map_toArray, List.map_cons, List.map_nil]); first | done | (go_simp; done) | rfl | (simp only [List.length_drop, List.length_take]; rfl)) ?_; (with_reducible refine (laws_eqDebtS.calls k _ _ t340 _ _ t333 false _ ?side1 ?side2 ?side3 ?side4 A14.out).mono ?_); (case side1 => repeat (first | exact (Kd.R_reads' HO343.out).2.2 | (with_reducible refine Kd.C_alloc ?_ _) | (with_reducible refine Kd.C_drewN ?_ _) | (with_reducible refine Kd.C_drew ?_))); (case side2 => exact (Kd.R_reads' HO343.out).2.1); (case side3 => repeat (first | exact (Kd.R_reads' HO336.out).2.2 | (with_reducible refine Kd.C_alloc ?_ _) | (with_reducible refine Kd.C_drewN ?_ _) | (with_reducible refine Kd.C_drew ?_))); (case side4 => exact (Kd.R_reads' HO336.out).2.1); rintro e w21 ⟨rfl, hb⟩; refine ⟨_, rfl, ?_⟩; have n0_ := Aside0.mk (Kd.R_below (by (with_reducible repeat (first | apply Kd.R_alloc | apply Kd.R_drewN | apply Kd.R_drew)); exact HO332.out) hb); have n1_ := Aside0.mk (Kd.R_below (by (with_reducible repeat (first | apply Kd.R_alloc | apply Kd.R_drewN | apply Kd.R_drew)); exact HO336.out) hb); have n2_ := Aside0.mk (Kd.R_below (by (with_reducible repeat (first | apply Kd.R_alloc | apply Kd.R_drewN | apply Kd.R_drew)); exact HO339.out) hb); have n3_ := Aside0.mk (Kd.R_below (by (with_reducible repeat (first | apply Kd.R_alloc | apply Kd.R_drewN | apply Kd.R_drew)); exact HO343.out) hb); have n4_ := Aside0.mk (below_step (by repeat (first | (with_reducible first | exact HB.out | apply below_alloc | apply pw_below_drewN | apply below_drew1) | exact HB.out)) hb); clear HO332; clear HO336; clear HO339; clear HO343; clear HB; have HO332 := n0_; have HO336 := n1_; have HO339 := n2_; have HO343 := n3_; have HB := n4_; clear n0_ n1_ n2_ n3_ n4_; (try clear hb); (try clear hb2); (try clear hk); (try clear hi)))
          go_meet
          case rel => exact ⟨_, (true), (by first | rfl | (simp; done) | (simp [*]; done)), H', ⟨by first | omega | exact Nat.le_refl _⟩, ⟨by (with_reducible repeat (first | apply Kd.R_alloc | apply Kd.R_drewN | apply Kd.R_drew)); exact Kd.R_mono HO336.out (fun _ hk => hk.2)⟩, ⟨by (with_reducible repeat (first | apply Kd.R_alloc | apply Kd.R_drewN | apply Kd.R_drew)); exact Kd.R_mono HO339.out (fun _ hk => trivial)⟩, ⟨by (with_reducible repeat (first | apply Kd.R_alloc | apply Kd.R_drewN | apply Kd.R_drew)); exact Kd.R_mono HO343.out (fun _ hk => hk.2)⟩, ⟨by repeat (first | (with_reducible first | exact HB.out | apply below_alloc | apply pw_below_drewN | apply below_drew1) | exact HB.out)⟩⟩
    case rest =>
      clear HC7
      try clear c1
      try clear c2
      try clear c2b0
      try clear c2b1
      try clear p2
      try clear c4
      try clear c7
      try clear c10
      try clear c11
      try clear c12
      try clear c15
      obtain ⟨kq, x37_6, rfl, HA, HJ6, HO_3, HO_5, HO_6, HB⟩ := hcut
      cases kq with
      | zero => exact absurd HA.out (by simp [laws_FnExactFewestPayments.j0])
      | succ kj6 =>
        have H := HA.out
        clear HA
        simp only [laws_FnExactFewestPayments.j0] at H
        by_cases c22 : x37_6 = true
        · subst c22
          have H1 : (some false) = some r := by rw [if_pos rfl] at H; exact H
          clear H
          have H := H1
          clear H1
          as_aux_lemma =>
            obtain rfl := Option.some.inj H
            cases ht
        · replace c22 := Bool.eq_false_iff.mpr c22
          subst c22
          have H1 : ((laws_toInt64S.f kj6 l0).bind fun t345 => ((laws_eqInt64S.f kj6 t337 t345).bind fun t348 => (if t348 = true then ((laws_markInt64S.f kj6 t337 1).bind fun bt349 => (if bt349.1 < 0 then (laws_FnExactFewestPayments.j1 kj6 l0 t333 t334 t340 true) else ((laws_eqDebtS.f kj6 t340 t333).bind fun t351 => (if t351 = true then (laws_FnExactFewestPayments.j1 kj6 l0 t333 t334 t340 (t341 != t334)) else (laws_FnExactFewestPayments.j1 kj6 l0 t333 t334 t340 true))))) else (some false)))) = some r := by rw [if_neg (show ¬ (false = true) by decide)] at H; exact H
          clear H
          have H := H1
          clear H1
          replace H := Option.bind_eq_some_iff.mp H
          obtain ⟨t345, A230, H⟩ := H
          replace H : ((laws_eqInt64S.f kj6 t337 t345).bind fun t348 => (if t348 = true then ((laws_markInt64S.f kj6 t337 1).bind fun bt349 => (if bt349.1 < 0 then (laws_FnExactFewestPayments.j1 kj6 l0 t333 t334 t340 true) else ((laws_eqDebtS.f kj6 t340 t333).bind fun t351 => (if t351 = true then (laws_FnExactFewestPayments.j1 kj6 l0 t333 t334 t340 (t341 != t334)) else (laws_FnExactFewestPayments.j1 kj6 l0 t333 t334 t340 true))))) else (some false))) = some r := H
          have A23 := Aside0.mk A230
          clear A230
          replace H := Option.bind_eq_some_iff.mp H
          obtain ⟨t348, A240, H⟩ := H
          replace H : (if t348 = true then ((laws_markInt64S.f kj6 t337 1).bind fun bt349 => (if bt349.1 < 0 then (laws_FnExactFewestPayments.j1 kj6 l0 t333 t334 t340 true) else ((laws_eqDebtS.f kj6 t340 t333).bind fun t351 => (if t351 = true then (laws_FnExactFewestPayments.j1 kj6 l0 t333 t334 t340 (t341 != t334)) else (laws_FnExactFewestPayments.j1 kj6 l0 t333 t334 t340 true))))) else (some false)) = some r := H
          have A24 := Aside0.mk A240
          clear A240
          by_cases c25 : t348 = true
          · subst c25
            have H1 : ((laws_markInt64S.f kj6 t337 1).bind fun bt349 => (if bt349.1 < 0 then (laws_FnExactFewestPayments.j1 kj6 l0 t333 t334 t340 true) else ((laws_eqDebtS.f kj6 t340 t333).bind fun t351 => (if t351 = true then (laws_FnExactFewestPayments.j1 kj6 l0 t333 t334 t340 (t341 != t334)) else (laws_FnExactFewestPayments.j1 kj6 l0 t333 t334 t340 true))))) = some r := by rw [if_pos rfl] at H; exact H
            clear H
            have H := H1
            clear H1
            replace H := Option.bind_eq_some_iff.mp H
            obtain ⟨⟨t349, t350⟩, A260, H⟩ := H
            replace H : (if t349 < 0 then (laws_FnExactFewestPayments.j1 kj6 l0 t333 t334 t340 true) else ((laws_eqDebtS.f kj6 t340 t333).bind fun t351 => (if t351 = true then (laws_FnExactFewestPayments.j1 kj6 l0 t333 t334 t340 (t341 != t334)) else (laws_FnExactFewestPayments.j1 kj6 l0 t333 t334 t340 true)))) = some r := H
            have A26 := Aside0.mk A260
            clear A260
            have HC27 := Aside0.mk H
            clear H
            go_upto_region 12 with (first | ((with_reducible refine gate_callee (f := 7) rfl ?_); refine goesL_ (some 40) rfl rfl Tryd.func7 (by kernel_rfl) rfl #[.slice A0 l0.length c0] rfl (by (try simp only [List.map_toArray, List.map_cons, List.map_nil]); first | done | (go_simp; done) | rfl | (simp only [List.length_drop, List.length_take]; rfl)) ?_; (with_reducible refine (laws_toInt64S.calls kj6 _ _ l0 t345 _ ?side1 ?side2 A23.out).mono ?_); (case side1 => repeat (first | exact (Kd.C_below HR0.out HB.out) | (with_reducible refine Kd.C_alloc ?_ _) | (with_reducible refine Kd.C_drewN ?_ _) | (with_reducible refine Kd.C_drew ?_))); (case side2 => exact HC0.out); rintro e w28 ⟨v346, rfl, ho0, hb⟩; refine ⟨_, rfl, ?_⟩; have n0_ := Aside0.mk (Kd.R_below (by (with_reducible repeat (first | apply Kd.R_alloc | apply Kd.R_drewN | apply Kd.R_drew)); exact HO_3.out) hb); have n1_ := Aside0.mk (Kd.R_elder' (by (with_reducible repeat (first | apply Kd.R_alloc | apply Kd.R_drewN | apply Kd.R_drew)); exact HO_5.out) (Kd.R_base ho0) hb); have n2_ := Aside0.mk (Kd.R_below (by (with_reducible repeat (first | apply Kd.R_alloc | apply Kd.R_drewN | apply Kd.R_drew)); exact HO_6.out) hb); have n3_ := Aside0.mk (Kd.R_lower (Kd.R_new' ho0 (Kd.R_lt (by (with_reducible repeat (first | apply Kd.R_alloc | apply Kd.R_drewN | apply Kd.R_drew)); exact HO_5.out))) (below_size (by repeat (first | (with_reducible first | exact HB.out | apply below_alloc | apply pw_below_drewN | apply below_drew1) | exact HB.out)))); have n4_ := Aside0.mk (below_step (by repeat (first | (with_reducible first | exact HB.out | apply below_alloc | apply pw_below_drewN | apply below_drew1) | exact HB.out)) hb); clear HO_3; clear HO_5; clear HO_6; clear HB; have HO_3 := n0_; have HO_5 := n1_; have HO_6 := n2_; have HO347 := n3_; have HB := n4_; clear n0_ n1_ n2_ n3_ n4_; (try clear hb); (try clear hb2); (try clear hk); (try clear hi); (try clear ho0); obtain ⟨Ao29, co29, eo29⟩ := Kd.R_slice HO347.out; subst eo29) | ((with_reducible refine gate_callee (f := 9) rfl ?_); refine goesL_ (some 41) rfl rfl Tryd.func9 (by kernel_rfl) rfl #[.slice Ao12 t337.length co12, .slice Ao29 t345.length co29] rfl (by (try simp only [List.map_toArray, List.map_cons, List.map_nil]); first | done | (go_simp; done) | rfl | (simp only [List.length_drop, List.length_take]; rfl)) ?_; (with_reducible refine (laws_eqInt64S.calls kj6 _ _ t337 _ _ t345 true _ ?side1 ?side2 ?side3 ?side4 A24.out).mono ?_); (case side1 => repeat (first | exact (Kd.R_reads' HO_5.out).2.2 | (with_reducible refine Kd.C_alloc ?_ _) | (with_reducible refine Kd.C_drewN ?_ _) | (with_reducible refine Kd.C_drew ?_))); (case side2 => exact (Kd.R_reads' HO_5.out).2.1); (case side3 => repeat (first | exact (Kd.R_reads' HO347.out).2.2 | (with_reducible refine Kd.C_alloc ?_ _) | (with_reducible refine Kd.C_drewN ?_ _) | (with_reducible refine Kd.C_drew ?_))); (case side4 => exact (Kd.R_reads' HO347.out).2.1); rintro e w' ⟨rfl, ⟨nd, rfl⟩⟩; refine ⟨_, rfl, ?_⟩) | ((with_reducible refine gate_callee (f := 13) rfl ?_); refine goesL_ (some 45) rfl rfl Tryd.func13 (by kernel_rfl) rfl #[.slice Ao12 t337.length co12, .int .i64 1] rfl (by (try simp only [List.map_toArray, List.map_cons, List.map_nil]); first | done | (go_simp; done) | rfl | (simp only [List.length_drop, List.length_take]; rfl)) ?_; (with_reducible refine (laws_markInt64S.calls kj6 (fun k_ => some k_ = (.slice Ao12 t337.length co12 : Value).ownBlock) (.slice Ao12 t337.length co12) t337 1 t349 t350 w _ ?side1 ?side2 A26.out).mono ?_); (case side1 => repeat (first | (with_reducible first | exact HB.out | apply below_alloc | apply pw_below_drewN | apply below_drew1) | exact HB.out)); (case side2 => exact Kd.R_tight rfl HO_5.out); rintro e w30 ⟨rfl, hy0, hb, hkp⟩; refine ⟨_, rfl, ?_⟩; have n0_ := Aside0.mk (Kd.R_mono (ok' := fun k_ => some k_ ≠ (v342 : Value).ownBlock) (Kd.R_keptB ((Kd.R_apart' HO_3.out (Kd.R_typed HO_5.out) (by decide))) hkp (fun k_ hk_ hs_ => (hk_.2) hs_)) (fun k_ hk_ => hk_.1.1)); have n1_ := Aside0.mk (Kd.R_reok rfl hy0 (fun k_ e_ => HO_5.out.1 k_ e_)); have n2_ := Aside0.mk (Kd.R_mono (ok' := fun k_ => some k_ ≠ (v335 : Value).ownBlock) (Kd.R_keptB ((Kd.R_apart' HO_6.out (Kd.R_typed HO_5.out) (by decide))) hkp (fun k_ hk_ hs_ => (hk_.2) hs_)) (fun k_ hk_ => hk_.1.1)); have n3_ := Aside0.mk (Kd.R_mono (ok' := fun k_ => some k_ ≠ (.slice Ao12 t337.length co12 : Value).ownBlock) (Kd.R_keptB (HO347.out) hkp (fun k_ hk_ hs_ => (hk_.2) hs_)) (fun k_ hk_ => hk_.1.2)); have n4_ := Aside0.mk (hb); clear HO_3; clear HO_5; clear HO_6; clear HO347; clear HB; have HO_3 := n0_; have HO_5 := n1_; have HO_6 := n2_; have HO347 := n3_; have HB := n4_; clear n0_ n1_ n2_ n3_ n4_; (try clear hb); (try clear hkp); (try clear hy0)))
            (try simp only [Act.put, List.setIfInBounds_toArray, List.set_cons_zero, List.set_cons_succ])
            go_cut [58] (fun v58 wc => ∃ (kq : Nat) (x58_26 : Bool), v58 = .bool x58_26 ∧ Aside0 (laws_FnExactFewestPayments.j1 kq l0 t333 t334 t340 x58_26 = some r) ∧ Aside0 (kq ≤ kj6) ∧ Aside0 (Kd.R k55 55 wc w.heap.size (fun k_ => some k_ ≠ (v342 : Value).ownBlock) v335 t333) ∧ Aside0 (Kd.R k55 55 wc w.heap.size (fun k_ => some k_ ≠ (v335 : Value).ownBlock) v342 t340) ∧ Aside0 (Below w.heap.size w wc))
            case first =>
              have H := HC27.out
              clear HC27
              by_cases c31 : t349 < 0
              · rw [if_pos c31] at H
                have c31b0 : decide (t349 < 0) = true := decide_eq_true c31
                clear c31
                (first | rw [c31b0] | (simp only [i64_w, i32_w]; rw [c31b0]) | skip)
                as_aux_lemma =>
                  have H' := Aside0.mk H
                  clear H
                  go_wp2
                  go_meet
                  case rel => exact ⟨_, (true), (by first | rfl | (simp; done) | (simp [*]; done)), H', ⟨by have := HJ6.out; first | omega | exact Nat.le_refl _⟩, ⟨by (with_reducible repeat (first | apply Kd.R_alloc | apply Kd.R_drewN | apply Kd.R_drew)); exact HO_3.out⟩, ⟨by (with_reducible repeat (first | apply Kd.R_alloc | apply Kd.R_drewN | apply Kd.R_drew)); exact HO_6.out⟩, ⟨by repeat (first | (with_reducible first | exact HB.out | apply below_alloc | apply pw_below_drewN | apply below_drew1) | exact HB.out)⟩⟩
              · rw [if_neg c31] at H
                have c31b0 : decide (t349 < 0) = false := decide_eq_false c31
                clear c31
                (first | rw [c31b0] | (simp only [i64_w, i32_w]; rw [c31b0]) | skip)
                replace H := Option.bind_eq_some_iff.mp H
                obtain ⟨t351, A320, H⟩ := H
                replace H : (if t351 = true then (laws_FnExactFewestPayments.j1 kj6 l0 t333 t334 t340 (t341 != t334)) else (laws_FnExactFewestPayments.j1 kj6 l0 t333 t334 t340 true)) = some r := H
                have A32 := Aside0.mk A320
                clear A320
                by_cases c33 : t351 = true
                · subst c33
                  have H1 : (laws_FnExactFewestPayments.j1 kj6 l0 t333 t334 t340 (t341 != t334)) = some r := by rw [if_pos rfl] at H; exact H
                  clear H
                  have H := H1
                  clear H1
                  as_aux_lemma =>
                    have H' := Aside0.mk H
                    clear H
                    obtain ⟨Ao34, co34, eo34⟩ := Kd.R_slice HO_6.out
                    subst eo34
                    obtain ⟨Ao35, co35, eo35⟩ := Kd.R_slice HO_3.out
                    subst eo35
                    go_wp2_with (first | (go_at_call 12; (with_reducible refine (laws_eqDebtS.calls kj6 _ _ t340 _ _ t333 true _ ?side1 ?side2 ?side3 ?side4 A32.out).mono ?_); (case side1 => repeat (first | exact (Kd.R_reads' HO_6.out).2.2 | (with_reducible refine Kd.C_alloc ?_ _) | (with_reducible refine Kd.C_drewN ?_ _) | (with_reducible refine Kd.C_drew ?_))); (case side2 => exact (Kd.R_reads' HO_6.out).2.1); (case side3 => repeat (first | exact (Kd.R_reads' HO_3.out).2.2 | (with_reducible refine Kd.C_alloc ?_ _) | (with_reducible refine Kd.C_drewN ?_ _) | (with_reducible refine Kd.C_drew ?_))); (case side4 => exact (Kd.R_reads' HO_3.out).2.1); rintro e w36 ⟨rfl, hb⟩; have n0_ := Aside0.mk (Kd.R_below (by (with_reducible repeat (first | apply Kd.R_alloc | apply Kd.R_drewN | apply Kd.R_drew)); exact HO_3.out) hb); have n1_ := Aside0.mk (Kd.R_below (by (with_reducible repeat (first | apply Kd.R_alloc | apply Kd.R_drewN | apply Kd.R_drew)); exact HO_5.out) hb); have n2_ := Aside0.mk (Kd.R_below (by (with_reducible repeat (first | apply Kd.R_alloc | apply Kd.R_drewN | apply Kd.R_drew)); exact HO_6.out) hb); have n3_ := Aside0.mk (Kd.R_below (by (with_reducible repeat (first | apply Kd.R_alloc | apply Kd.R_drewN | apply Kd.R_drew)); exact HO347.out) hb); have n4_ := Aside0.mk (below_step (by repeat (first | (with_reducible first | exact HB.out | apply below_alloc | apply pw_below_drewN | apply below_drew1) | exact HB.out)) hb); clear HO_3; clear HO_5; clear HO_6; clear HO347; clear HB; have HO_3 := n0_; have HO_5 := n1_; have HO_6 := n2_; have HO347 := n3_; have HB := n4_; clear n0_ n1_ n2_ n3_ n4_; (try clear hb); (try clear hb2); (try clear hk); (try clear hi)))
                    go_meet
                    case rel => exact ⟨_, ((t341 != t334)), (by first | rfl | (simp; done) | (simp [*]; done)), H', ⟨by have := HJ6.out; first | omega | exact Nat.le_refl _⟩, ⟨by (with_reducible repeat (first | apply Kd.R_alloc | apply Kd.R_drewN | apply Kd.R_drew)); exact HO_3.out⟩, ⟨by (with_reducible repeat (first | apply Kd.R_alloc | apply Kd.R_drewN | apply Kd.R_drew)); exact HO_6.out⟩, ⟨by repeat (first | (with_reducible first | exact HB.out | apply below_alloc | apply pw_below_drewN | apply below_drew1) | exact HB.out)⟩⟩
                · replace c33 := Bool.eq_false_iff.mpr c33
                  subst c33
                  have H1 : (laws_FnExactFewestPayments.j1 kj6 l0 t333 t334 t340 true) = some r := by rw [if_neg (show ¬ (false = true) by decide)] at H; exact H
                  clear H
                  have H := H1
                  clear H1
                  as_aux_lemma =>
                    have H' := Aside0.mk H
                    clear H
                    obtain ⟨Ao37, co37, eo37⟩ := Kd.R_slice HO_6.out
                    subst eo37
                    obtain ⟨Ao38, co38, eo38⟩ := Kd.R_slice HO_3.out
                    subst eo38
                    go_wp2_with (first | (go_at_call 12; (with_reducible refine (laws_eqDebtS.calls kj6 _ _ t340 _ _ t333 false _ ?side1 ?side2 ?side3 ?side4 A32.out).mono ?_); (case side1 => repeat (first | exact (Kd.R_reads' HO_6.out).2.2 | (with_reducible refine Kd.C_alloc ?_ _) | (with_reducible refine Kd.C_drewN ?_ _) | (with_reducible refine Kd.C_drew ?_))); (case side2 => exact (Kd.R_reads' HO_6.out).2.1); (case side3 => repeat (first | exact (Kd.R_reads' HO_3.out).2.2 | (with_reducible refine Kd.C_alloc ?_ _) | (with_reducible refine Kd.C_drewN ?_ _) | (with_reducible refine Kd.C_drew ?_))); (case side4 => exact (Kd.R_reads' HO_3.out).2.1); rintro e w39 ⟨rfl, hb⟩; have n0_ := Aside0.mk (Kd.R_below (by (with_reducible repeat (first | apply Kd.R_alloc | apply Kd.R_drewN | apply Kd.R_drew)); exact HO_3.out) hb); have n1_ := Aside0.mk (Kd.R_below (by (with_reducible repeat (first | apply Kd.R_alloc | apply Kd.R_drewN | apply Kd.R_drew)); exact HO_5.out) hb); have n2_ := Aside0.mk (Kd.R_below (by (with_reducible repeat (first | apply Kd.R_alloc | apply Kd.R_drewN | apply Kd.R_drew)); exact HO_6.out) hb); have n3_ := Aside0.mk (Kd.R_below (by (with_reducible repeat (first | apply Kd.R_alloc | apply Kd.R_drewN | apply Kd.R_drew)); exact HO347.out) hb); have n4_ := Aside0.mk (below_step (by repeat (first | (with_reducible first | exact HB.out | apply below_alloc | apply pw_below_drewN | apply below_drew1) | exact HB.out)) hb); clear HO_3; clear HO_5; clear HO_6; clear HO347; clear HB; have HO_3 := n0_; have HO_5 := n1_; have HO_6 := n2_; have HO347 := n3_; have HB := n4_; clear n0_ n1_ n2_ n3_ n4_; (try clear hb); (try clear hb2); (try clear hk); (try clear hi)))
                    go_meet
                    case rel => exact ⟨_, (true), (by first | rfl | (simp; done) | (simp [*]; done)), H', ⟨by have := HJ6.out; first | omega | exact Nat.le_refl _⟩, ⟨by (with_reducible repeat (first | apply Kd.R_alloc | apply Kd.R_drewN | apply Kd.R_drew)); exact HO_3.out⟩, ⟨by (with_reducible repeat (first | apply Kd.R_alloc | apply Kd.R_drewN | apply Kd.R_drew)); exact HO_6.out⟩, ⟨by repeat (first | (with_reducible first | exact HB.out | apply below_alloc | apply pw_below_drewN | apply below_drew1) | exact HB.out)⟩⟩
            case rest =>
              clear HC27
              try clear c1
              try clear c2
              try clear c2b0
              try clear c2b1
              try clear p2
              try clear c3
              try clear c4
              try clear c7
              try clear c9
              try clear c10
              try clear c11
              try clear c12
              try clear c13
              try clear c15
              try clear c22
              try clear c25
              try clear c31
              try clear c31b0
              try clear c33
              try clear p2
              obtain ⟨kq, x58_26, rfl, HA, HJ26, HO_3, HO_6, HB⟩ := hcut
              cases kq with
              | zero => exact absurd HA.out (by simp [laws_FnExactFewestPayments.j1])
              | succ kj26 =>
                have H := HA.out
                clear HA
                simp only [laws_FnExactFewestPayments.j1] at H
                by_cases c40 : x58_26 = true
                · subst c40
                  have H1 : (some false) = some r := by rw [if_pos rfl] at H; exact H
                  clear H
                  have H := H1
                  clear H1
                  as_aux_lemma =>
                    obtain rfl := Option.some.inj H
                    cases ht
                · replace c40 := Bool.eq_false_iff.mpr c40
                  subst c40
                  have H1 : ((laws_markDebtS.f kj26 t340 1).bind fun bt352 => ((laws_heldDebtS.f kj26 bt352.2 1).bind fun t354 => (if t354 < 0 then (some false) else (if t354 = bt352.1 then ((laws_toInt64S.f kj26 l0).bind fun t355 => ((impl_FewestPayments.f kj26 t355).bind fun bt358 => ((laws_eqDebtS.f kj26 bt358.1 t333).bind fun t362 => (if t362 = true then (laws_FnExactFewestPayments.j2 kj26 bt352.2 bt352.1 (bt358.2 != t334)) else (laws_FnExactFewestPayments.j2 kj26 bt352.2 bt352.1 true))))) else (some false))))) = some r := by rw [if_neg (show ¬ (false = true) by decide)] at H; exact H
                  clear H
                  have H := H1
                  clear H1
                  replace H := Option.bind_eq_some_iff.mp H
                  obtain ⟨⟨t352, t353⟩, A410, H⟩ := H
                  replace H : ((laws_heldDebtS.f kj26 t353 1).bind fun t354 => (if t354 < 0 then (some false) else (if t354 = t352 then ((laws_toInt64S.f kj26 l0).bind fun t355 => ((impl_FewestPayments.f kj26 t355).bind fun bt358 => ((laws_eqDebtS.f kj26 bt358.1 t333).bind fun t362 => (if t362 = true then (laws_FnExactFewestPayments.j2 kj26 t353 t352 (bt358.2 != t334)) else (laws_FnExactFewestPayments.j2 kj26 t353 t352 true))))) else (some false)))) = some r := H
                  have A41 := Aside0.mk A410
                  clear A410
                  replace H := Option.bind_eq_some_iff.mp H
                  obtain ⟨t354, A420, H⟩ := H
                  replace H : (if t354 < 0 then (some false) else (if t354 = t352 then ((laws_toInt64S.f kj26 l0).bind fun t355 => ((impl_FewestPayments.f kj26 t355).bind fun bt358 => ((laws_eqDebtS.f kj26 bt358.1 t333).bind fun t362 => (if t362 = true then (laws_FnExactFewestPayments.j2 kj26 t353 t352 (bt358.2 != t334)) else (laws_FnExactFewestPayments.j2 kj26 t353 t352 true))))) else (some false))) = some r := H
                  have A42 := Aside0.mk A420
                  clear A420
                  by_cases c43 : t354 < 0
                  · rw [if_pos c43] at H
                    have c43b0 : decide (t354 < 0) = true := decide_eq_true c43
                    clear c43
                    as_aux_lemma =>
                      obtain rfl := Option.some.inj H
                      cases ht
                  · rw [if_neg c43] at H
                    have c43b0 : decide (t354 < 0) = false := decide_eq_false c43
                    clear c43
                    by_cases c44 : t354 = t352
                    · rw [if_pos c44] at H
                      have c44b0 : (t354 == t352) = true := beq_iff_eq.mpr c44
                      have c44b1 : (t354 != t352) = false := bne_eq_false_iff_eq.mpr c44
                      clear c44
                      replace H := Option.bind_eq_some_iff.mp H
                      obtain ⟨t355, A450, H⟩ := H
                      replace H : ((impl_FewestPayments.f kj26 t355).bind fun bt358 => ((laws_eqDebtS.f kj26 bt358.1 t333).bind fun t362 => (if t362 = true then (laws_FnExactFewestPayments.j2 kj26 t353 t352 (bt358.2 != t334)) else (laws_FnExactFewestPayments.j2 kj26 t353 t352 true)))) = some r := H
                      have A45 := Aside0.mk A450
                      clear A450
                      replace H := Option.bind_eq_some_iff.mp H
                      obtain ⟨⟨t358, t359⟩, A460, H⟩ := H
                      replace H : ((laws_eqDebtS.f kj26 t358 t333).bind fun t362 => (if t362 = true then (laws_FnExactFewestPayments.j2 kj26 t353 t352 (t359 != t334)) else (laws_FnExactFewestPayments.j2 kj26 t353 t352 true))) = some r := H
                      have A46 := Aside0.mk A460
                      clear A460
                      have HC47 := Aside0.mk H
                      clear H
                      obtain ⟨Ao48, co48, eo48⟩ := Kd.R_slice HO_6.out
                      subst eo48
                      go_upto_region 23 with (first | ((with_reducible refine gate_callee (f := 14) rfl ?_); refine goesL_ (some 61) rfl rfl Tryd.func14 (by kernel_rfl) rfl #[.slice Ao48 t340.length co48, .int .i64 1] rfl (by (try simp only [List.map_toArray, List.map_cons, List.map_nil]); first | done | (go_simp; done) | rfl | (simp only [List.length_drop, List.length_take]; rfl)) ?_; (with_reducible refine (laws_markDebtS.calls kj26 (fun k_ => some k_ = (.slice Ao48 t340.length co48 : Value).ownBlock) (.slice Ao48 t340.length co48) t340 1 t352 t353 w _ ?side1 ?side2 A41.out).mono ?_); (case side1 => repeat (first | (with_reducible first | exact HB.out | apply below_alloc | apply pw_below_drewN | apply below_drew1) | exact HB.out)); (case side2 => exact Kd.R_tight rfl HO_6.out); rintro e w49 ⟨rfl, hy0, hb, hkp⟩; refine ⟨_, rfl, ?_⟩; have n0_ := Aside0.mk (Kd.R_mono (ok' := fun k_ => some k_ ≠ (.slice Ao48 t340.length co48 : Value).ownBlock) (Kd.R_keptB (HO_3.out) hkp (fun k_ hk_ hs_ => (hk_) hs_)) (fun k_ hk_ => hk_.1)); have n1_ := Aside0.mk (Kd.R_reok rfl hy0 (fun k_ e_ => HO_6.out.1 k_ e_)); have n2_ := Aside0.mk (hb); clear HO_3; clear HO_6; clear HB; have HO_3 := n0_; have HO_6 := n1_; have HB := n2_; clear n0_ n1_ n2_; (try clear hb); (try clear hkp); (try clear hy0)) | ((with_reducible refine gate_callee (f := 15) rfl ?_); refine goesL_ (some 64) rfl rfl Tryd.func15 (by kernel_rfl) rfl #[.slice Ao48 t353.length co48, .int .i64 1] rfl (by (try simp only [List.map_toArray, List.map_cons, List.map_nil]); first | done | (rw [show t353.length = t340.length from (Kd.R_reads' HO_6.out).1.symm] <;> rfl) | (go_simp; done) | rfl | (simp only [List.length_drop, List.length_take]; rfl)) ?_; (with_reducible refine (laws_heldDebtS.calls kj26 _ _ t353 1 t354 _ ?side1 ?side2 A42.out).mono ?_); (case side1 => repeat (first | exact (Kd.R_reads' HO_6.out).2.2 | (with_reducible refine Kd.C_alloc ?_ _) | (with_reducible refine Kd.C_drewN ?_ _) | (with_reducible refine Kd.C_drew ?_))); (case side2 => rw [show t353.length = t340.length from (Kd.R_reads' HO_6.out).1.symm]; exact (Kd.R_reads' HO_6.out).2.1); rintro e w' ⟨rfl, ⟨nd, rfl⟩⟩; refine ⟨_, rfl, ?_⟩) | ((with_reducible refine gate_callee (f := 7) rfl ?_); refine goesL_ (some 72) rfl rfl Tryd.func7 (by kernel_rfl) rfl #[.slice A0 l0.length c0] rfl (by (try simp only [List.map_toArray, List.map_cons, List.map_nil]); first | done | (go_simp; done) | rfl | (simp only [List.length_drop, List.length_take]; rfl)) ?_; (with_reducible refine (laws_toInt64S.calls kj26 _ _ l0 t355 _ ?side1 ?side2 A45.out).mono ?_); (case side1 => repeat (first | exact (Kd.C_below HR0.out (by repeat (first | (with_reducible first | exact HB.out | apply below_alloc | apply pw_below_drewN | apply below_drew1) | exact HB.out))) | (with_reducible refine Kd.C_alloc ?_ _) | (with_reducible refine Kd.C_drewN ?_ _) | (with_reducible refine Kd.C_drew ?_))); (case side2 => exact HC0.out); rintro e w50 ⟨v356, rfl, ho0, hb⟩; refine ⟨_, rfl, ?_⟩; have n0_ := Aside0.mk (Kd.R_below (by (with_reducible repeat (first | apply Kd.R_alloc | apply Kd.R_drewN | apply Kd.R_drew)); exact HO_3.out) hb); have n1_ := Aside0.mk (Kd.R_below (by (with_reducible repeat (first | apply Kd.R_alloc | apply Kd.R_drewN | apply Kd.R_drew)); exact HO_6.out) hb); have n2_ := Aside0.mk (Kd.R_lower ho0 (below_size (by repeat (first | (with_reducible first | exact HB.out | apply below_alloc | apply pw_below_drewN | apply below_drew1) | exact HB.out)))); have n3_ := Aside0.mk (below_step (by repeat (first | (with_reducible first | exact HB.out | apply below_alloc | apply pw_below_drewN | apply below_drew1) | exact HB.out)) hb); clear HO_3; clear HO_6; clear HB; have HO_3 := n0_; have HO_6 := n1_; have HO357 := n2_; have HB := n3_; clear n0_ n1_ n2_ n3_; (try clear hb); (try clear hb2); (try clear hk); (try clear hi); (try clear ho0); obtain ⟨Ao51, co51, eo51⟩ := Kd.R_slice HO357.out; subst eo51) | ((with_reducible refine gate_callee (f := 11) rfl ?_); refine goesL_ (some 73) rfl rfl Tryd.func11 (by kernel_rfl) rfl #[.slice Ao51 t355.length co51] rfl (by (try simp only [List.map_toArray, List.map_cons, List.map_nil]); first | done | (go_simp; done) | rfl | (simp only [List.length_drop, List.length_take]; rfl)) ?_; (with_reducible refine (impl_FewestPayments.calls kj26 _ _ t355 t358 t359 _ ?side1 ?side2 ?side3 A46.out).mono ?_); (case side1 => repeat (first | exact (Kd.R_reads' HO357.out).2.2 | (with_reducible refine Kd.C_alloc ?_ _) | (with_reducible refine Kd.C_drewN ?_ _) | (with_reducible refine Kd.C_drew ?_))); (case side2 => exact (Kd.R_reads' HO357.out).2.1); (case side3 => first | exact hT | exact Tt.TT_on hT (by repeat (first | (with_reducible first | exact HB.out | apply below_alloc | apply pw_below_drewN | apply below_drew1) | exact HB.out))); rintro e w52 ⟨v360, rfl, ho0, hb⟩; refine ⟨_, rfl, ?_⟩; have n0_ := Aside0.mk (Kd.R_elder' (by (with_reducible repeat (first | apply Kd.R_alloc | apply Kd.R_drewN | apply Kd.R_drew)); exact HO_3.out) (Kd.R_base ho0) hb); have n1_ := Aside0.mk (Kd.R_elder' (by (with_reducible repeat (first | apply Kd.R_alloc | apply Kd.R_drewN | apply Kd.R_drew)); exact HO_6.out) (Kd.R_base ho0) hb); have n2_ := Aside0.mk (Kd.R_below (by (with_reducible repeat (first | apply Kd.R_alloc | apply Kd.R_drewN | apply Kd.R_drew)); exact HO357.out) hb); have n3_ := Aside0.mk (Kd.R_lower (Kd.R_new' (Kd.R_new' ho0 (Kd.R_lt (by (with_reducible repeat (first | apply Kd.R_alloc | apply Kd.R_drewN | apply Kd.R_drew)); exact HO_3.out))) (Kd.R_lt (by (with_reducible repeat (first | apply Kd.R_alloc | apply Kd.R_drewN | apply Kd.R_drew)); exact HO_6.out))) (below_size (by repeat (first | (with_reducible first | exact HB.out | apply below_alloc | apply pw_below_drewN | apply below_drew1) | exact HB.out)))); have n4_ := Aside0.mk (below_step (by repeat (first | (with_reducible first | exact HB.out | apply below_alloc | apply pw_below_drewN | apply below_drew1) | exact HB.out)) hb); clear HO_3; clear HO_6; clear HO357; clear HB; have HO_3 := n0_; have HO_6 := n1_; have HO357 := n2_; have HO361 := n3_; have HB := n4_; clear n0_ n1_ n2_ n3_ n4_; (try clear hb); (try clear hb2); (try clear hk); (try clear hi); (try clear ho0)))
                      (try simp only [Act.put, List.setIfInBounds_toArray, List.set_cons_zero, List.set_cons_succ])
                      go_cut [84] (fun v84 wc => ∃ (kq : Nat) (x84_46 : Bool), v84 = .bool x84_46 ∧ Aside0 (laws_FnExactFewestPayments.j2 kq t353 t352 x84_46 = some r) ∧ Aside0 (kq ≤ kj26) ∧ Aside0 (Kd.R k55 55 wc w.heap.size (fun _ => True) (.slice Ao48 t340.length co48) t353) ∧ Aside0 (Below w.heap.size w wc))
                      case first =>
                        have H := HC47.out
                        clear HC47
                        replace H := Option.bind_eq_some_iff.mp H
                        obtain ⟨t362, A530, H⟩ := H
                        replace H : (if t362 = true then (laws_FnExactFewestPayments.j2 kj26 t353 t352 (t359 != t334)) else (laws_FnExactFewestPayments.j2 kj26 t353 t352 true)) = some r := H
                        have A53 := Aside0.mk A530
                        clear A530
                        by_cases c54 : t362 = true
                        · subst c54
                          have H1 : (laws_FnExactFewestPayments.j2 kj26 t353 t352 (t359 != t334)) = some r := by rw [if_pos rfl] at H; exact H
                          clear H
                          have H := H1
                          clear H1
                          as_aux_lemma =>
                            have H' := Aside0.mk H
                            clear H
                            obtain ⟨Ao55, co55, eo55⟩ := Kd.R_slice HO361.out
                            subst eo55
                            obtain ⟨Ao56, co56, eo56⟩ := Kd.R_slice HO_3.out
                            subst eo56
                            go_wp2_with (first | ((with_reducible refine gate_callee (f := 12) rfl ?_); refine goesL_ (some 78) rfl rfl Tryd.func12 (by kernel_rfl) rfl #[.slice Ao55 t358.length co55, .slice Ao56 t333.length co56] rfl (by (try simp only [List.map_toArray, List.map_cons, List.map_nil]); first | done | (go_simp; done) | rfl | (simp only [List.length_drop, List.length_take]; rfl)) ?_; (with_reducible refine (laws_eqDebtS.calls kj26 _ _ t358 _ _ t333 true _ ?side1 ?side2 ?side3 ?side4 A53.out).mono ?_); (case side1 => repeat (first | exact (Kd.R_reads' HO361.out).2.2 | (with_reducible refine Kd.C_alloc ?_ _) | (with_reducible refine Kd.C_drewN ?_ _) | (with_reducible refine Kd.C_drew ?_))); (case side2 => exact (Kd.R_reads' HO361.out).2.1); (case side3 => repeat (first | exact (Kd.R_reads' HO_3.out).2.2 | (with_reducible refine Kd.C_alloc ?_ _) | (with_reducible refine Kd.C_drewN ?_ _) | (with_reducible refine Kd.C_drew ?_))); (case side4 => exact (Kd.R_reads' HO_3.out).2.1); rintro e w57 ⟨rfl, hb⟩; refine ⟨_, rfl, ?_⟩; have n0_ := Aside0.mk (Kd.R_below (by (with_reducible repeat (first | apply Kd.R_alloc | apply Kd.R_drewN | apply Kd.R_drew)); exact HO_3.out) hb); have n1_ := Aside0.mk (Kd.R_below (by (with_reducible repeat (first | apply Kd.R_alloc | apply Kd.R_drewN | apply Kd.R_drew)); exact HO_6.out) hb); have n2_ := Aside0.mk (Kd.R_below (by (with_reducible repeat (first | apply Kd.R_alloc | apply Kd.R_drewN | apply Kd.R_drew)); exact HO357.out) hb); have n3_ := Aside0.mk (Kd.R_below (by (with_reducible repeat (first | apply Kd.R_alloc | apply Kd.R_drewN | apply Kd.R_drew)); exact HO361.out) hb); have n4_ := Aside0.mk (below_step (by repeat (first | (with_reducible first | exact HB.out | apply below_alloc | apply pw_below_drewN | apply below_drew1) | exact HB.out)) hb); clear HO_3; clear HO_6; clear HO357; clear HO361; clear HB; have HO_3 := n0_; have HO_6 := n1_; have HO357 := n2_; have HO361 := n3_; have HB := n4_; clear n0_ n1_ n2_ n3_ n4_; (try clear hb); (try clear hb2); (try clear hk); (try clear hi)))
                            go_meet
                            case rel => exact ⟨_, ((t359 != t334)), (by first | rfl | (simp; done) | (simp [*]; done)), H', ⟨by have := HJ6.out; have := HJ26.out; first | omega | exact Nat.le_refl _⟩, ⟨by (with_reducible repeat (first | apply Kd.R_alloc | apply Kd.R_drewN | apply Kd.R_drew)); exact Kd.R_mono HO_6.out (fun _ hk => trivial)⟩, ⟨by repeat (first | (with_reducible first | exact HB.out | apply below_alloc | apply pw_below_drewN | apply below_drew1) | exact HB.out)⟩⟩
                        · replace c54 := Bool.eq_false_iff.mpr c54
                          subst c54
                          have H1 : (laws_FnExactFewestPayments.j2 kj26 t353 t352 true) = some r := by rw [if_neg (show ¬ (false = true) by decide)] at H; exact H
                          clear H
                          have H := H1
                          clear H1
                          as_aux_lemma =>
                            have H' := Aside0.mk H
                            clear H
                            obtain ⟨Ao58, co58, eo58⟩ := Kd.R_slice HO361.out
                            subst eo58
                            obtain ⟨Ao59, co59, eo59⟩ := Kd.R_slice HO_3.out
                            subst eo59
                            go_wp2_with (first | ((with_reducible refine gate_callee (f := 12) rfl ?_); refine goesL_ (some 78) rfl rfl Tryd.func12 (by kernel_rfl) rfl #[.slice Ao58 t358.length co58, .slice Ao59 t333.length co59] rfl (by (try simp only [List.map_toArray, List.map_cons, List.map_nil]); first | done | (go_simp; done) | rfl | (simp only [List.length_drop, List.length_take]; rfl)) ?_; (with_reducible refine (laws_eqDebtS.calls kj26 _ _ t358 _ _ t333 false _ ?side1 ?side2 ?side3 ?side4 A53.out).mono ?_); (case side1 => repeat (first | exact (Kd.R_reads' HO361.out).2.2 | (with_reducible refine Kd.C_alloc ?_ _) | (with_reducible refine Kd.C_drewN ?_ _) | (with_reducible refine Kd.C_drew ?_))); (case side2 => exact (Kd.R_reads' HO361.out).2.1); (case side3 => repeat (first | exact (Kd.R_reads' HO_3.out).2.2 | (with_reducible refine Kd.C_alloc ?_ _) | (with_reducible refine Kd.C_drewN ?_ _) | (with_reducible refine Kd.C_drew ?_))); (case side4 => exact (Kd.R_reads' HO_3.out).2.1); rintro e w60 ⟨rfl, hb⟩; refine ⟨_, rfl, ?_⟩; have n0_ := Aside0.mk (Kd.R_below (by (with_reducible repeat (first | apply Kd.R_alloc | apply Kd.R_drewN | apply Kd.R_drew)); exact HO_3.out) hb); have n1_ := Aside0.mk (Kd.R_below (by (with_reducible repeat (first | apply Kd.R_alloc | apply Kd.R_drewN | apply Kd.R_drew)); exact HO_6.out) hb); have n2_ := Aside0.mk (Kd.R_below (by (with_reducible repeat (first | apply Kd.R_alloc | apply Kd.R_drewN | apply Kd.R_drew)); exact HO357.out) hb); have n3_ := Aside0.mk (Kd.R_below (by (with_reducible repeat (first | apply Kd.R_alloc | apply Kd.R_drewN | apply Kd.R_drew)); exact HO361.out) hb); have n4_ := Aside0.mk (below_step (by repeat (first | (with_reducible first | exact HB.out | apply below_alloc | apply pw_below_drewN | apply below_drew1) | exact HB.out)) hb); clear HO_3; clear HO_6; clear HO357; clear HO361; clear HB; have HO_3 := n0_; have HO_6 := n1_; have HO357 := n2_; have HO361 := n3_; have HB := n4_; clear n0_ n1_ n2_ n3_ n4_; (try clear hb); (try clear hb2); (try clear hk); (try clear hi)))
                            go_meet
                            case rel => exact ⟨_, (true), (by first | rfl | (simp; done) | (simp [*]; done)), H', ⟨by have := HJ6.out; have := HJ26.out; first | omega | exact Nat.le_refl _⟩, ⟨by (with_reducible repeat (first | apply Kd.R_alloc | apply Kd.R_drewN | apply Kd.R_drew)); exact Kd.R_mono HO_6.out (fun _ hk => trivial)⟩, ⟨by repeat (first | (with_reducible first | exact HB.out | apply below_alloc | apply pw_below_drewN | apply below_drew1) | exact HB.out)⟩⟩
                      case rest =>
                        clear HC47
                        try clear c1
                        try clear c2
                        try clear c2b0
                        try clear c2b1
                        try clear p2
                        try clear c3
                        try clear c4
                        try clear c5
                        try clear c7
                        try clear c9
                        try clear c10
                        try clear c11
                        try clear c12
                        try clear c13
                        try clear c14
                        try clear c15
                        try clear c22
                        try clear c25
                        try clear c31
                        try clear c31b0
                        try clear c33
                        try clear c40
                        try clear c43
                        try clear c43b0
                        try clear c44
                        try clear c44b0
                        try clear c44b1
                        try clear c54
                        try clear p2
                        obtain ⟨kq, x84_46, rfl, HA, HJ46, HO_6, HB⟩ := hcut
                        have hl6_46 := (Kd.R_reads' HO_6.out).1
                        rw [hl6_46] at HO_6
                        (try simp only [hl6_46])
                        cases kq with
                        | zero => exact absurd HA.out (by simp [laws_FnExactFewestPayments.j2])
                        | succ kj46 =>
                          have H := HA.out
                          clear HA
                          simp only [laws_FnExactFewestPayments.j2] at H
                          by_cases c61 : x84_46 = true
                          · subst c61
                            have H1 : (some false) = some r := by rw [if_pos rfl] at H; exact H
                            clear H
                            have H := H1
                            clear H1
                            as_aux_lemma =>
                              obtain rfl := Option.some.inj H
                              cases ht
                          · replace c61 := Bool.eq_false_iff.mpr c61
                            subst c61
                            have H1 : ((laws_heldDebtS.f kj46 t353 1).bind fun t363 => (if t363 < 0 then (some false) else (if t363 = t352 then (some true) else (some false)))) = some r := by rw [if_neg (show ¬ (false = true) by decide)] at H; exact H
                            clear H
                            have H := H1
                            clear H1
                            replace H := Option.bind_eq_some_iff.mp H
                            obtain ⟨t363, A620, H⟩ := H
                            replace H : (if t363 < 0 then (some false) else (if t363 = t352 then (some true) else (some false))) = some r := H
                            have A62 := Aside0.mk A620
                            clear A620
                            by_cases c63 : t363 < 0
                            · rw [if_pos c63] at H
                              have c63b0 : decide (t363 < 0) = true := decide_eq_true c63
                              clear c63
                              as_aux_lemma =>
                                obtain rfl := Option.some.inj H
                                cases ht
                            · rw [if_neg c63] at H
                              have c63b0 : decide (t363 < 0) = false := decide_eq_false c63
                              clear c63
                              by_cases c64 : t363 = t352
                              · rw [if_pos c64] at H
                                have c64b0 : (t363 == t352) = true := beq_iff_eq.mpr c64
                                have c64b1 : (t363 != t352) = false := bne_eq_false_iff_eq.mpr c64
                                clear c64
                                as_aux_lemma =>
                                  obtain rfl := Option.some.inj H
                                  go_wp2_with (first | ((with_reducible refine gate_callee (f := 15) rfl ?_); refine goesL_ (some 87) rfl rfl Tryd.func15 (by kernel_rfl) rfl #[.slice Ao48 t353.length co48, .int .i64 1] rfl (by (try simp only [List.map_toArray, List.map_cons, List.map_nil]); first | done | (go_simp; done) | rfl | (simp only [List.length_drop, List.length_take]; rfl)) ?_; (with_reducible refine (laws_heldDebtS.calls kj46 _ _ t353 1 t363 _ ?side1 ?side2 A62.out).mono ?_); (case side1 => repeat (first | exact (Kd.R_reads' HO_6.out).2.2 | (with_reducible refine Kd.C_alloc ?_ _) | (with_reducible refine Kd.C_drewN ?_ _) | (with_reducible refine Kd.C_drew ?_))); (case side2 => exact (Kd.R_reads' HO_6.out).2.1); rintro e w' ⟨rfl, ⟨nd, rfl⟩⟩; refine ⟨_, rfl, ?_⟩))
                                  go_ret
                                  exact ⟨by first | rfl | (simp [errW_none, errW_some] <;> rfl) | (simp [*, errW_none, errW_some] <;> rfl), by repeat (first | (with_reducible first | exact HB.out | apply below_alloc | apply pw_below_drewN | apply below_drew1) | exact HB.out)⟩
                              · rw [if_neg c64] at H
                                have c64b0 : (t363 == t352) = false := beq_eq_false_iff_ne.mpr c64
                                have c64b1 : (t363 != t352) = true := bne_iff_ne.mpr c64
                                as_aux_lemma =>
                                  obtain rfl := Option.some.inj H
                                  cases ht
                    · rw [if_neg c44] at H
                      have c44b0 : (t354 == t352) = false := beq_eq_false_iff_ne.mpr c44
                      have c44b1 : (t354 != t352) = true := bne_iff_ne.mpr c44
                      as_aux_lemma =>
                        obtain rfl := Option.some.inj H
                        cases ht
          · replace c25 := Bool.eq_false_iff.mpr c25
            subst c25
            have H1 : (some false) = some r := by rw [if_neg (show ¬ (false = true) by decide)] at H; exact H
            clear H
            have H := H1
            clear H1
            as_aux_lemma =>
              obtain rfl := Option.some.inj H
              cases ht

end Go.Proofs.YtcghnnhhgngddaaDoor.MFewestPayments
