-- by a program of this session, for this claim
import Derived.Test.YtofcgkcpkngocaaMFindCirclex0
import Derived.Test.YtofcgkcpkngocaaMFindCirclex1
import Derived.Test.YtofcgkcpkngocaaMFindCirclex5
import Derived.Test.YtofcgkcpkngocaaMFindCirclex9
namespace Go.Proofs.Ytofcgkcpkngocaa.MFindCircle
open Go.RowKit Go.Proofs.YtofcgkcpkngocaaW.PrintWords Go.Proofs.YtofcgkcpkngocaaW.PrintLast Go.Proofs.YtofcgkcpkngocaaW.PrintMore
attribute [local go_sem] max2_int min2_int max_two min_two max_three min_three max_four min_four   -- for this text's walks alone
set_option linter.unusedVariables false
set_option linter.unusedSimpArgs false

/-! ### laws_FnExactFindCircle: function 6 -/
mutual
def laws_FnExactFindCircle.j0 : Nat → Int → List (S67) → List Int → Int → List (S65) → List Int → Int → Bool → Option (Bool)
  | 0, _, _, _, _, _, _, _, _ => none
  | k + 1, x0, x1, x6, x7, x8, x9, x10, x44 => if x44 = true then (some false) else ((laws_toDebtS.f k x1).bind fun t281 => ((laws_eqDebtS.f k x8 t281).bind fun t284 => (if t284 = true then ((laws_markDebtS.f k x8 1).bind fun bt285 => (if bt285.1 < 0 then (laws_FnExactFindCircle.j1 k x0 x1 x6 x7 x9 true) else ((laws_eqInt64S.f k x9 x6).bind fun t287 => (if t287 = true then (laws_FnExactFindCircle.j1 k x0 x1 x6 x7 x9 (x10 != x7)) else (laws_FnExactFindCircle.j1 k x0 x1 x6 x7 x9 true))))) else (some false))))
def laws_FnExactFindCircle.j1 : Nat → Int → List (S67) → List Int → Int → List Int → Bool → Option (Bool)
  | 0, _, _, _, _, _, _ => none
  | k + 1, x0, x1, x6, x7, x9, x65 => if x65 = true then (some false) else ((laws_markInt64S.f k x9 1).bind fun bt288 => ((laws_heldInt64S.f k bt288.2 1).bind fun t290 => (if t290 < 0 then (some false) else (if t290 = bt288.1 then ((laws_toDebtS.f k x1).bind fun t291 => ((impl_FindCircle.f k x0 t291).bind fun bt294 => ((laws_eqInt64S.f k bt294.1 x6).bind fun t298 => (if t298 = true then (laws_FnExactFindCircle.j2 k bt288.2 bt288.1 (bt294.2 != x7)) else (laws_FnExactFindCircle.j2 k bt288.2 bt288.1 true))))) else (some false)))))
def laws_FnExactFindCircle.j2 : Nat → List Int → Int → Bool → Option (Bool)
  | 0, _, _, _ => none
  | k + 1, x9, x12, x92 => if x92 = true then (some false) else ((laws_heldInt64S.f k x9 1).bind fun t299 => (if t299 < 0 then (some false) else (if t299 = x12 then (some true) else (some false))))
end
def laws_FnExactFindCircle.f (k : Nat) (a0 : Int) (l1 : List (S67)) : Option (Bool) := (laws_szDebtS.f l1 1048576).bind fun t265 => (if t265 < 0 then (some true) else ((laws_toDebtS.f k l1).bind fun t266 => ((spec_FindCircle.f k a0 t266).bind fun bt269 => ((laws_toDebtS.f k l1).bind fun t273 => ((impl_FindCircle.f k a0 t273).bind fun bt276 => ((laws_eqInt64S.f k bt276.1 bt269.1).bind fun t280 => (if t280 = true then (laws_FnExactFindCircle.j0 k a0 l1 bt269.1 bt269.2 t273 bt276.1 bt276.2 (bt276.2 != bt269.2)) else (laws_FnExactFindCircle.j0 k a0 l1 bt269.1 bt269.2 t273 bt276.1 bt276.2 true))))))))
theorem laws_FnExactFindCircle.mono_l : ∀ k, (∀ y0 y1 y2 y3 y4 y5 y6 y7, LeO (laws_FnExactFindCircle.j0 k y0 y1 y2 y3 y4 y5 y6 y7) (laws_FnExactFindCircle.j0 (k + 1) y0 y1 y2 y3 y4 y5 y6 y7)) ∧ (∀ y0 y1 y2 y3 y4 y5, LeO (laws_FnExactFindCircle.j1 k y0 y1 y2 y3 y4 y5) (laws_FnExactFindCircle.j1 (k + 1) y0 y1 y2 y3 y4 y5)) ∧ (∀ y0 y1 y2, LeO (laws_FnExactFindCircle.j2 k y0 y1 y2) (laws_FnExactFindCircle.j2 (k + 1) y0 y1 y2))
  | 0 => ⟨fun _ _ _ _ _ _ _ _ r h => by simp [laws_FnExactFindCircle.j0] at h, fun _ _ _ _ _ _ r h => by simp [laws_FnExactFindCircle.j1] at h, fun _ _ _ r h => by simp [laws_FnExactFindCircle.j2] at h⟩
  | k + 1 => by
    obtain ⟨ih0, ih1, ih2⟩ := laws_FnExactFindCircle.mono_l k
    refine ⟨?_, ?_, ?_⟩
    · intro y0 y1 y2 y3 y4 y5 y6 y7
      unfold laws_FnExactFindCircle.j0
      repeat' first
      | (with_reducible exact ih0 _ _ _ _ _ _ _ _)
      | (with_reducible exact ih1 _ _ _ _ _ _)
      | (with_reducible exact ih2 _ _ _)
      | (with_reducible exact impl_FindCircle.mono _ _ _)
      | (with_reducible exact laws_eqDebtS.mono _ _ _)
      | (with_reducible exact laws_eqInt64S.mono _ _ _)
      | (with_reducible exact laws_heldInt64S.mono _ _ _)
      | (with_reducible exact laws_markDebtS.mono _ _ _)
      | (with_reducible exact laws_markInt64S.mono _ _ _)
      | (with_reducible exact laws_toDebtS.mono _ _)
      | (with_reducible exact spec_FindCircle.mono _ _ _)
      | (with_reducible exact LeO.refl _)
      | (with_reducible exact LeO.none _)
      | (with_reducible refine LeO.ite ?_ ?_)
      | (with_reducible refine LeO.bind ?_ (fun _ => ?_))
      | exact ih0 _ _ _ _ _ _ _ _
      | exact ih1 _ _ _ _ _ _
      | exact ih2 _ _ _
      | exact impl_FindCircle.mono _ _ _
      | exact laws_eqDebtS.mono _ _ _
      | exact laws_eqInt64S.mono _ _ _
      | exact laws_heldInt64S.mono _ _ _
      | exact laws_markDebtS.mono _ _ _
      | exact laws_markInt64S.mono _ _ _
      | exact laws_toDebtS.mono _ _
      | exact spec_FindCircle.mono _ _ _
      | exact LeO.none _
      | refine LeO.ite ?_ ?_
      | refine LeO.bind ?_ (fun _ => ?_)
    · intro y0 y1 y2 y3 y4 y5
      unfold laws_FnExactFindCircle.j1
      repeat' first
      | (with_reducible exact ih0 _ _ _ _ _ _ _ _)
      | (with_reducible exact ih1 _ _ _ _ _ _)
      | (with_reducible exact ih2 _ _ _)
      | (with_reducible exact impl_FindCircle.mono _ _ _)
      | (with_reducible exact laws_eqDebtS.mono _ _ _)
      | (with_reducible exact laws_eqInt64S.mono _ _ _)
      | (with_reducible exact laws_heldInt64S.mono _ _ _)
      | (with_reducible exact laws_markDebtS.mono _ _ _)
      | (with_reducible exact laws_markInt64S.mono _ _ _)
      | (with_reducible exact laws_toDebtS.mono _ _)
      | (with_reducible exact spec_FindCircle.mono _ _ _)
      | (with_reducible exact LeO.refl _)
      | (with_reducible exact LeO.none _)
      | (with_reducible refine LeO.ite ?_ ?_)
      | (with_reducible refine LeO.bind ?_ (fun _ => ?_))
      | exact ih0 _ _ _ _ _ _ _ _
      | exact ih1 _ _ _ _ _ _
      | exact ih2 _ _ _
      | exact impl_FindCircle.mono _ _ _
      | exact laws_eqDebtS.mono _ _ _
      | exact laws_eqInt64S.mono _ _ _
      | exact laws_heldInt64S.mono _ _ _
      | exact laws_markDebtS.mono _ _ _
      | exact laws_markInt64S.mono _ _ _
      | exact laws_toDebtS.mono _ _
      | exact spec_FindCircle.mono _ _ _
      | exact LeO.none _
      | refine LeO.ite ?_ ?_
      | refine LeO.bind ?_ (fun _ => ?_)
    · intro y0 y1 y2
      unfold laws_FnExactFindCircle.j2
      repeat' first
      | (with_reducible exact ih0 _ _ _ _ _ _ _ _)
      | (with_reducible exact ih1 _ _ _ _ _ _)
      | (with_reducible exact ih2 _ _ _)
      | (with_reducible exact impl_FindCircle.mono _ _ _)
      | (with_reducible exact laws_eqDebtS.mono _ _ _)
      | (with_reducible exact laws_eqInt64S.mono _ _ _)
      | (with_reducible exact laws_heldInt64S.mono _ _ _)
      | (with_reducible exact laws_markDebtS.mono _ _ _)
      | (with_reducible exact laws_markInt64S.mono _ _ _)
      | (with_reducible exact laws_toDebtS.mono _ _)
      | (with_reducible exact spec_FindCircle.mono _ _ _)
      | (with_reducible exact LeO.refl _)
      | (with_reducible exact LeO.none _)
      | (with_reducible refine LeO.ite ?_ ?_)
      | (with_reducible refine LeO.bind ?_ (fun _ => ?_))
      | exact ih0 _ _ _ _ _ _ _ _
      | exact ih1 _ _ _ _ _ _
      | exact ih2 _ _ _
      | exact impl_FindCircle.mono _ _ _
      | exact laws_eqDebtS.mono _ _ _
      | exact laws_eqInt64S.mono _ _ _
      | exact laws_heldInt64S.mono _ _ _
      | exact laws_markDebtS.mono _ _ _
      | exact laws_markInt64S.mono _ _ _
      | exact laws_toDebtS.mono _ _
      | exact spec_FindCircle.mono _ _ _
      | exact LeO.none _
      | refine LeO.ite ?_ ?_
      | refine LeO.bind ?_ (fun _ => ?_)
theorem laws_FnExactFindCircle.mono : ∀ a0 a1 k, LeO (laws_FnExactFindCircle.f k a0 a1) (laws_FnExactFindCircle.f (k + 1) a0 a1) := by
  intro a0 a1 k
  obtain ⟨ih0, ih1, ih2⟩ := laws_FnExactFindCircle.mono_l k
  unfold laws_FnExactFindCircle.f
  repeat' first
      | (with_reducible exact ih0 _ _ _ _ _ _ _ _)
      | (with_reducible exact ih1 _ _ _ _ _ _)
      | (with_reducible exact ih2 _ _ _)
      | (with_reducible exact impl_FindCircle.mono _ _ _)
      | (with_reducible exact laws_eqDebtS.mono _ _ _)
      | (with_reducible exact laws_eqInt64S.mono _ _ _)
      | (with_reducible exact laws_heldInt64S.mono _ _ _)
      | (with_reducible exact laws_markDebtS.mono _ _ _)
      | (with_reducible exact laws_markInt64S.mono _ _ _)
      | (with_reducible exact laws_toDebtS.mono _ _)
      | (with_reducible exact spec_FindCircle.mono _ _ _)
      | (with_reducible exact LeO.refl _)
      | (with_reducible exact LeO.none _)
      | (with_reducible refine LeO.ite ?_ ?_)
      | (with_reducible refine LeO.bind ?_ (fun _ => ?_))
      | exact ih0 _ _ _ _ _ _ _ _
      | exact ih1 _ _ _ _ _ _
      | exact ih2 _ _ _
      | exact impl_FindCircle.mono _ _ _
      | exact laws_eqDebtS.mono _ _ _
      | exact laws_eqInt64S.mono _ _ _
      | exact laws_heldInt64S.mono _ _ _
      | exact laws_markDebtS.mono _ _ _
      | exact laws_markInt64S.mono _ _ _
      | exact laws_toDebtS.mono _ _
      | exact spec_FindCircle.mono _ _ _
      | exact LeO.none _
      | refine LeO.ite ?_ ?_
      | refine LeO.bind ?_ (fun _ => ?_)
set_option maxHeartbeats 8000000 in
set_option maxRecDepth 100000 in
theorem laws_FnExactFindCircle.calls (k : Nat) (a0 : Int) (A1 : Option Addr) (c1 : Nat) (l1 : List (S67)) (r : Bool) (w : World) (hr1 : Kd.C k67 w A1 l1.length l1) (hc1 : l1.length ≤ c1) (h : laws_FnExactFindCircle.f k a0 l1 = some r) (ht : r = true) :
    Calls Try.prog 6 #[.int .i64 a0, .slice A1 l1.length c1] w fun e w' => e = .returned (.bool r) ∧ Below w.heap.size w w' := by
  have HR1 := Aside0.mk hr1
  have HC1 := Aside0.mk hc1
  clear hr1 hc1
  have HB := Aside0.mk (Below.refl w.heap.size w)
  have H : ((laws_szDebtS.f l1 1048576).bind fun t265 => (if t265 < 0 then (some true) else ((laws_toDebtS.f k l1).bind fun t266 => ((spec_FindCircle.f k a0 t266).bind fun bt269 => ((laws_toDebtS.f k l1).bind fun t273 => ((impl_FindCircle.f k a0 t273).bind fun bt276 => ((laws_eqInt64S.f k bt276.1 bt269.1).bind fun t280 => (if t280 = true then (laws_FnExactFindCircle.j0 k a0 l1 bt269.1 bt269.2 t273 bt276.1 bt276.2 (bt276.2 != bt269.2)) else (laws_FnExactFindCircle.j0 k a0 l1 bt269.1 bt269.2 t273 bt276.1 bt276.2 true))))))))) = some r := h
  clear h
  replace H := Option.bind_eq_some_iff.mp H
  obtain ⟨t265, A30, H⟩ := H
  replace H : (if t265 < 0 then (some true) else ((laws_toDebtS.f k l1).bind fun t266 => ((spec_FindCircle.f k a0 t266).bind fun bt269 => ((laws_toDebtS.f k l1).bind fun t273 => ((impl_FindCircle.f k a0 t273).bind fun bt276 => ((laws_eqInt64S.f k bt276.1 bt269.1).bind fun t280 => (if t280 = true then (laws_FnExactFindCircle.j0 k a0 l1 bt269.1 bt269.2 t273 bt276.1 bt276.2 (bt276.2 != bt269.2)) else (laws_FnExactFindCircle.j0 k a0 l1 bt269.1 bt269.2 t273 bt276.1 bt276.2 true)))))))) = some r := H
  have A3 := Aside0.mk A30
  clear A30
  by_cases c4 : t265 < 0
  · rw [if_pos c4] at H
    have c4b0 : decide (t265 < 0) = true := decide_eq_true c4
    clear c4
    obtain rfl := Option.some.inj H
    go_enter Try.func6, Try.ntmps6
    go_wp2_with (first | ((with_reducible refine gate_callee (f := 15) rfl ?_); refine goesL_ (some 18) rfl rfl Try.func15 (by kernel_rfl) rfl #[.slice A1 l1.length c1, .int .i64 1048576] rfl (by (try simp only [List.map_toArray, List.map_cons, List.map_nil]); first | done | (go_simp; done) | rfl | (simp only [List.length_drop, List.length_take]; rfl)) ?_; (with_reducible refine (laws_szDebtS.calls _ _ l1 1048576 t265 _ ?side1 ?side2 A3.out).mono ?_); (case side1 => repeat (first | exact HR1.out | (with_reducible refine Kd.C_alloc ?_ _) | (with_reducible refine Kd.C_drewN ?_ _) | (with_reducible refine Kd.C_drew ?_))); (case side2 => exact HC1.out); rintro e w' ⟨rfl, ⟨nd, rfl⟩⟩; refine ⟨_, rfl, ?_⟩))
    go_ret
    exact ⟨by first | rfl | (simp [errW_none, errW_some] <;> rfl) | (simp [*, errW_none, errW_some] <;> rfl), by repeat (first | (with_reducible first | exact HB.out | apply below_alloc | apply pw_below_drewN | apply below_drew1) | exact HB.out)⟩
  · rw [if_neg c4] at H
    have c4b0 : decide (t265 < 0) = false := decide_eq_false c4
    clear c4
    replace H := Option.bind_eq_some_iff.mp H
    obtain ⟨t266, A50, H⟩ := H
    replace H : ((spec_FindCircle.f k a0 t266).bind fun bt269 => ((laws_toDebtS.f k l1).bind fun t273 => ((impl_FindCircle.f k a0 t273).bind fun bt276 => ((laws_eqInt64S.f k bt276.1 bt269.1).bind fun t280 => (if t280 = true then (laws_FnExactFindCircle.j0 k a0 l1 bt269.1 bt269.2 t273 bt276.1 bt276.2 (bt276.2 != bt269.2)) else (laws_FnExactFindCircle.j0 k a0 l1 bt269.1 bt269.2 t273 bt276.1 bt276.2 true)))))) = some r := H
    have A5 := Aside0.mk A50
    clear A50
    replace H := Option.bind_eq_some_iff.mp H
    obtain ⟨⟨t269, t270⟩, A60, H⟩ := H
    replace H : ((laws_toDebtS.f k l1).bind fun t273 => ((impl_FindCircle.f k a0 t273).bind fun bt276 => ((laws_eqInt64S.f k bt276.1 t269).bind fun t280 => (if t280 = true then (laws_FnExactFindCircle.j0 k a0 l1 t269 t270 t273 bt276.1 bt276.2 (bt276.2 != t270)) else (laws_FnExactFindCircle.j0 k a0 l1 t269 t270 t273 bt276.1 bt276.2 true))))) = some r := H
    have A6 := Aside0.mk A60
    clear A60
    replace H := Option.bind_eq_some_iff.mp H
    obtain ⟨t273, A70, H⟩ := H
    replace H : ((impl_FindCircle.f k a0 t273).bind fun bt276 => ((laws_eqInt64S.f k bt276.1 t269).bind fun t280 => (if t280 = true then (laws_FnExactFindCircle.j0 k a0 l1 t269 t270 t273 bt276.1 bt276.2 (bt276.2 != t270)) else (laws_FnExactFindCircle.j0 k a0 l1 t269 t270 t273 bt276.1 bt276.2 true)))) = some r := H
    have A7 := Aside0.mk A70
    clear A70
    replace H := Option.bind_eq_some_iff.mp H
    obtain ⟨⟨t276, t277⟩, A80, H⟩ := H
    replace H : ((laws_eqInt64S.f k t276 t269).bind fun t280 => (if t280 = true then (laws_FnExactFindCircle.j0 k a0 l1 t269 t270 t273 t276 t277 (t277 != t270)) else (laws_FnExactFindCircle.j0 k a0 l1 t269 t270 t273 t276 t277 true))) = some r := H
    have A8 := Aside0.mk A80
    clear A80
    have HC9 := Aside0.mk H
    clear H
    go_enter Try.func6, Try.ntmps6
    go_upto_region 8 with (first | ((with_reducible refine gate_callee (f := 15) rfl ?_); refine goesL_ (some 18) rfl rfl Try.func15 (by kernel_rfl) rfl #[.slice A1 l1.length c1, .int .i64 1048576] rfl (by (try simp only [List.map_toArray, List.map_cons, List.map_nil]); first | done | (go_simp; done) | rfl | (simp only [List.length_drop, List.length_take]; rfl)) ?_; (with_reducible refine (laws_szDebtS.calls _ _ l1 1048576 t265 _ ?side1 ?side2 A3.out).mono ?_); (case side1 => repeat (first | exact HR1.out | (with_reducible refine Kd.C_alloc ?_ _) | (with_reducible refine Kd.C_drewN ?_ _) | (with_reducible refine Kd.C_drew ?_))); (case side2 => exact HC1.out); rintro e w' ⟨rfl, ⟨nd, rfl⟩⟩; refine ⟨_, rfl, ?_⟩) | ((with_reducible refine gate_callee (f := 17) rfl ?_); refine goesL_ (some 24) rfl rfl Try.func17 (by kernel_rfl) rfl #[.slice A1 l1.length c1] rfl (by (try simp only [List.map_toArray, List.map_cons, List.map_nil]); first | done | (go_simp; done) | rfl | (simp only [List.length_drop, List.length_take]; rfl)) ?_; (with_reducible refine (laws_toDebtS.calls k _ _ l1 t266 _ ?side1 ?side2 A5.out).mono ?_); (case side1 => repeat (first | exact HR1.out | (with_reducible refine Kd.C_alloc ?_ _) | (with_reducible refine Kd.C_drewN ?_ _) | (with_reducible refine Kd.C_drew ?_))); (case side2 => exact HC1.out); rintro e w10 ⟨v267, rfl, ho0, hb⟩; refine ⟨_, rfl, ?_⟩; have n0_ := Aside0.mk (Kd.R_lower ho0 (below_size (by repeat (first | (with_reducible first | exact HB.out | apply below_alloc | apply pw_below_drewN | apply below_drew1) | exact HB.out)))); have n1_ := Aside0.mk (below_step (by repeat (first | (with_reducible first | exact HB.out | apply below_alloc | apply pw_below_drewN | apply below_drew1) | exact HB.out)) hb); clear HB; have HO268 := n0_; have HB := n1_; clear n0_ n1_; (try clear hb); (try clear hb2); (try clear hk); (try clear hi); (try clear ho0); obtain ⟨Ao11, co11, eo11⟩ := Kd.R_slice HO268.out; subst eo11) | ((with_reducible refine gate_callee (f := 26) rfl ?_); refine goesL_ (some 25) rfl rfl Try.func26 (by kernel_rfl) rfl #[.int .i64 a0, .slice Ao11 t266.length co11] rfl (by (try simp only [List.map_toArray, List.map_cons, List.map_nil]); first | done | (go_simp; done) | rfl | (simp only [List.length_drop, List.length_take]; rfl)) ?_; (with_reducible refine (spec_FindCircle.calls k a0 _ _ t266 t269 t270 _ ?side1 ?side2 A6.out).mono ?_); (case side1 => repeat (first | exact (Kd.R_reads' HO268.out).2.2 | (with_reducible refine Kd.C_alloc ?_ _) | (with_reducible refine Kd.C_drewN ?_ _) | (with_reducible refine Kd.C_drew ?_))); (case side2 => exact (Kd.R_reads' HO268.out).2.1); rintro e w12 ⟨v271, rfl, ho0, hb⟩; refine ⟨_, rfl, ?_⟩; have n0_ := Aside0.mk (Kd.R_below (by (with_reducible repeat (first | apply Kd.R_alloc | apply Kd.R_drewN | apply Kd.R_drew)); exact HO268.out) hb); have n1_ := Aside0.mk (Kd.R_lower ho0 (below_size (by repeat (first | (with_reducible first | exact HB.out | apply below_alloc | apply pw_below_drewN | apply below_drew1) | exact HB.out)))); have n2_ := Aside0.mk (below_step (by repeat (first | (with_reducible first | exact HB.out | apply below_alloc | apply pw_below_drewN | apply below_drew1) | exact HB.out)) hb); clear HO268; clear HB; have HO268 := n0_; have HO272 := n1_; have HB := n2_; clear n0_ n1_ n2_; (try clear hb); (try clear hb2); (try clear hk); (try clear hi); (try clear ho0)) | ((with_reducible refine gate_callee (f := 17) rfl ?_); refine goesL_ (some 29) rfl rfl Try.func17 (by kernel_rfl) rfl #[.slice A1 l1.length c1] rfl (by (try simp only [List.map_toArray, List.map_cons, List.map_nil]); first | done | (go_simp; done) | rfl | (simp only [List.length_drop, List.length_take]; rfl)) ?_; (with_reducible refine (laws_toDebtS.calls k _ _ l1 t273 _ ?side1 ?side2 A7.out).mono ?_); (case side1 => repeat (first | exact (Kd.C_below HR1.out HB.out) | (with_reducible refine Kd.C_alloc ?_ _) | (with_reducible refine Kd.C_drewN ?_ _) | (with_reducible refine Kd.C_drew ?_))); (case side2 => exact HC1.out); rintro e w13 ⟨v274, rfl, ho0, hb⟩; refine ⟨_, rfl, ?_⟩; have n0_ := Aside0.mk (Kd.R_elder' (by (with_reducible repeat (first | apply Kd.R_alloc | apply Kd.R_drewN | apply Kd.R_drew)); exact HO268.out) (Kd.R_base ho0) hb); have n1_ := Aside0.mk (Kd.R_below (by (with_reducible repeat (first | apply Kd.R_alloc | apply Kd.R_drewN | apply Kd.R_drew)); exact HO272.out) hb); have n2_ := Aside0.mk (Kd.R_lower (Kd.R_new' ho0 (Kd.R_lt (by (with_reducible repeat (first | apply Kd.R_alloc | apply Kd.R_drewN | apply Kd.R_drew)); exact HO268.out))) (below_size (by repeat (first | (with_reducible first | exact HB.out | apply below_alloc | apply pw_below_drewN | apply below_drew1) | exact HB.out)))); have n3_ := Aside0.mk (below_step (by repeat (first | (with_reducible first | exact HB.out | apply below_alloc | apply pw_below_drewN | apply below_drew1) | exact HB.out)) hb); clear HO268; clear HO272; clear HB; have HO268 := n0_; have HO272 := n1_; have HO275 := n2_; have HB := n3_; clear n0_ n1_ n2_ n3_; (try clear hb); (try clear hb2); (try clear hk); (try clear hi); (try clear ho0); obtain ⟨Ao14, co14, eo14⟩ := Kd.R_slice HO275.out; subst eo14) | ((with_reducible refine gate_callee (f := 27) rfl ?_); refine goesL_ (some 33) rfl rfl Try.func27 (by kernel_rfl) rfl #[.int .i64 a0, .slice Ao14 t273.length co14] rfl (by (try simp only [List.map_toArray, List.map_cons, List.map_nil]); first | done | (go_simp; done) | rfl | (simp only [List.length_drop, List.length_take]; rfl)) ?_; (with_reducible refine (impl_FindCircle.calls k a0 _ _ t273 t276 t277 _ ?side1 ?side2 A8.out).mono ?_); (case side1 => repeat (first | exact (Kd.R_reads' HO275.out).2.2 | (with_reducible refine Kd.C_alloc ?_ _) | (with_reducible refine Kd.C_drewN ?_ _) | (with_reducible refine Kd.C_drew ?_))); (case side2 => exact (Kd.R_reads' HO275.out).2.1); rintro e w15 ⟨v278, rfl, ho0, hb⟩; refine ⟨_, rfl, ?_⟩; have n0_ := Aside0.mk (Kd.R_below (by (with_reducible repeat (first | apply Kd.R_alloc | apply Kd.R_drewN | apply Kd.R_drew)); exact HO268.out) hb); have n1_ := Aside0.mk (Kd.R_elder' (by (with_reducible repeat (first | apply Kd.R_alloc | apply Kd.R_drewN | apply Kd.R_drew)); exact HO272.out) (Kd.R_base ho0) hb); have n2_ := Aside0.mk (Kd.R_below (by (with_reducible repeat (first | apply Kd.R_alloc | apply Kd.R_drewN | apply Kd.R_drew)); exact HO275.out) hb); have n3_ := Aside0.mk (Kd.R_lower (Kd.R_new' ho0 (Kd.R_lt (by (with_reducible repeat (first | apply Kd.R_alloc | apply Kd.R_drewN | apply Kd.R_drew)); exact HO272.out))) (below_size (by repeat (first | (with_reducible first | exact HB.out | apply below_alloc | apply pw_below_drewN | apply below_drew1) | exact HB.out)))); have n4_ := Aside0.mk (below_step (by repeat (first | (with_reducible first | exact HB.out | apply below_alloc | apply pw_below_drewN | apply below_drew1) | exact HB.out)) hb); clear HO268; clear HO272; clear HO275; clear HB; have HO268 := n0_; have HO272 := n1_; have HO275 := n2_; have HO279 := n3_; have HB := n4_; clear n0_ n1_ n2_ n3_ n4_; (try clear hb); (try clear hb2); (try clear hk); (try clear hi); (try clear ho0)))
    (try simp only [Act.put, List.setIfInBounds_toArray, List.set_cons_zero, List.set_cons_succ])
    go_cut [44] (fun v44 wc => ∃ (kq : Nat) (x44_8 : Bool), v44 = .bool x44_8 ∧ Aside0 (laws_FnExactFindCircle.j0 kq a0 l1 t269 t270 t273 t276 t277 x44_8 = some r) ∧ Aside0 (kq ≤ k) ∧ Aside0 (Kd.R (Kd.int .i64) 2 wc w.heap.size (fun k_ => some k_ ≠ (v278 : Value).ownBlock) v271 t269) ∧ Aside0 (Kd.R k65 65 wc w.heap.size (fun _ => True) (.slice Ao14 t273.length co14) t273) ∧ Aside0 (Kd.R (Kd.int .i64) 2 wc w.heap.size (fun k_ => some k_ ≠ (v271 : Value).ownBlock) v278 t276) ∧ Aside0 (Below w.heap.size w wc))
    case first =>
      have H := HC9.out
      clear HC9
      replace H := Option.bind_eq_some_iff.mp H
      obtain ⟨t280, A160, H⟩ := H
      replace H : (if t280 = true then (laws_FnExactFindCircle.j0 k a0 l1 t269 t270 t273 t276 t277 (t277 != t270)) else (laws_FnExactFindCircle.j0 k a0 l1 t269 t270 t273 t276 t277 true)) = some r := H
      have A16 := Aside0.mk A160
      clear A160
      by_cases c17 : t280 = true
      · subst c17
        have H1 : (laws_FnExactFindCircle.j0 k a0 l1 t269 t270 t273 t276 t277 (t277 != t270)) = some r := by rw [if_pos rfl] at H; exact H
        clear H
        have H := H1
        clear H1
        have H' := Aside0.mk H
        clear H
        obtain ⟨Ao18, co18, eo18⟩ := Kd.R_slice HO279.out
        subst eo18
        obtain ⟨Ao19, co19, eo19⟩ := Kd.R_slice HO272.out
        subst eo19
        go_wp2_with (first | ((with_reducible refine gate_callee (f := 28) rfl ?_); refine goesL_ (some 38) rfl rfl Try.func28 (by kernel_rfl) rfl #[.slice Ao18 t276.length co18, .slice Ao19 t269.length co19] rfl (by (try simp only [List.map_toArray, List.map_cons, List.map_nil]); first | done | (go_simp; done) | rfl | (simp only [List.length_drop, List.length_take]; rfl)) ?_; (with_reducible refine (laws_eqInt64S.calls k _ _ t276 _ _ t269 true _ ?side1 ?side2 ?side3 ?side4 A16.out).mono ?_); (case side1 => repeat (first | exact (Kd.R_reads' HO279.out).2.2 | (with_reducible refine Kd.C_alloc ?_ _) | (with_reducible refine Kd.C_drewN ?_ _) | (with_reducible refine Kd.C_drew ?_))); (case side2 => exact (Kd.R_reads' HO279.out).2.1); (case side3 => repeat (first | exact (Kd.R_reads' HO272.out).2.2 | (with_reducible refine Kd.C_alloc ?_ _) | (with_reducible refine Kd.C_drewN ?_ _) | (with_reducible refine Kd.C_drew ?_))); (case side4 => exact (Kd.R_reads' HO272.out).2.1); rintro e w' ⟨rfl, ⟨nd, rfl⟩⟩; refine ⟨_, rfl, ?_⟩))
        go_meet
        case rel => exact ⟨_, ((t277 != t270)), (by first | rfl | (simp; done) | (simp [*]; done)), H', ⟨by first | omega | exact Nat.le_refl _⟩, ⟨by (with_reducible repeat (first | apply Kd.R_alloc | apply Kd.R_drewN | apply Kd.R_drew)); exact Kd.R_mono HO272.out (fun _ hk => hk.2)⟩, ⟨by (with_reducible repeat (first | apply Kd.R_alloc | apply Kd.R_drewN | apply Kd.R_drew)); exact Kd.R_mono HO275.out (fun _ hk => trivial)⟩, ⟨by (with_reducible repeat (first | apply Kd.R_alloc | apply Kd.R_drewN | apply Kd.R_drew)); exact Kd.R_mono HO279.out (fun _ hk => hk.2)⟩, ⟨by repeat (first | (with_reducible first | exact HB.out | apply below_alloc | apply pw_below_drewN | apply below_drew1) | exact HB.out)⟩⟩
      · replace c17 := Bool.eq_false_iff.mpr c17
        subst c17
        have H1 : (laws_FnExactFindCircle.j0 k a0 l1 t269 t270 t273 t276 t277 true) = some r := by rw [if_neg (show ¬ (false = true) by decide)] at H; exact H
        clear H
        have H := H1
        clear H1
        have H' := Aside0.mk H
        clear H
        obtain ⟨Ao20, co20, eo20⟩ := Kd.R_slice HO279.out
        subst eo20
        obtain ⟨Ao21, co21, eo21⟩ := Kd.R_slice HO272.out
        subst eo21
        go_wp2_with (first | ((with_reducible refine gate_callee (f := 28) rfl ?_); refine goesL_ (some 38) rfl rfl Try.func28 (by kernel_rfl) rfl #[.slice Ao20 t276.length co20, .slice Ao21 t269.length co21] rfl (by (try simp only [List.map_toArray, List.map_cons, List.map_nil]); first | done | (go_simp; done) | rfl | (simp only [List.length_drop, List.length_take]; rfl)) ?_; (with_reducible refine (laws_eqInt64S.calls k _ _ t276 _ _ t269 false _ ?side1 ?side2 ?side3 ?side4 A16.out).mono ?_); (case side1 => repeat (first | exact (Kd.R_reads' HO279.out).2.2 | (with_reducible refine Kd.C_alloc ?_ _) | (with_reducible refine Kd.C_drewN ?_ _) | (with_reducible refine Kd.C_drew ?_))); (case side2 => exact (Kd.R_reads' HO279.out).2.1); (case side3 => repeat (first | exact (Kd.R_reads' HO272.out).2.2 | (with_reducible refine Kd.C_alloc ?_ _) | (with_reducible refine Kd.C_drewN ?_ _) | (with_reducible refine Kd.C_drew ?_))); (case side4 => exact (Kd.R_reads' HO272.out).2.1); rintro e w' ⟨rfl, ⟨nd, rfl⟩⟩; refine ⟨_, rfl, ?_⟩))
        go_meet
        case rel => exact ⟨_, (true), (by first | rfl | (simp; done) | (simp [*]; done)), H', ⟨by first | omega | exact Nat.le_refl _⟩, ⟨by (with_reducible repeat (first | apply Kd.R_alloc | apply Kd.R_drewN | apply Kd.R_drew)); exact Kd.R_mono HO272.out (fun _ hk => hk.2)⟩, ⟨by (with_reducible repeat (first | apply Kd.R_alloc | apply Kd.R_drewN | apply Kd.R_drew)); exact Kd.R_mono HO275.out (fun _ hk => trivial)⟩, ⟨by (with_reducible repeat (first | apply Kd.R_alloc | apply Kd.R_drewN | apply Kd.R_drew)); exact Kd.R_mono HO279.out (fun _ hk => hk.2)⟩, ⟨by repeat (first | (with_reducible first | exact HB.out | apply below_alloc | apply pw_below_drewN | apply below_drew1) | exact HB.out)⟩⟩
    case rest =>
      clear HC9
      try clear c1
      try clear c2
      try clear p2
      try clear c4
      try clear c4b0
      try clear c6
      try clear c15
      try clear c17
      obtain ⟨kq, x44_8, rfl, HA, HJ8, HO_6, HO_8, HO_9, HB⟩ := hcut
      cases kq with
      | zero => exact absurd HA.out (by simp [laws_FnExactFindCircle.j0])
      | succ kj8 =>
        have H := HA.out
        clear HA
        simp only [laws_FnExactFindCircle.j0] at H
        by_cases c22 : x44_8 = true
        · subst c22
          have H1 : (some false) = some r := by rw [if_pos rfl] at H; exact H
          clear H
          have H := H1
          clear H1
          obtain rfl := Option.some.inj H
          cases ht
        · replace c22 := Bool.eq_false_iff.mpr c22
          subst c22
          have H1 : ((laws_toDebtS.f kj8 l1).bind fun t281 => ((laws_eqDebtS.f kj8 t273 t281).bind fun t284 => (if t284 = true then ((laws_markDebtS.f kj8 t273 1).bind fun bt285 => (if bt285.1 < 0 then (laws_FnExactFindCircle.j1 kj8 a0 l1 t269 t270 t276 true) else ((laws_eqInt64S.f kj8 t276 t269).bind fun t287 => (if t287 = true then (laws_FnExactFindCircle.j1 kj8 a0 l1 t269 t270 t276 (t277 != t270)) else (laws_FnExactFindCircle.j1 kj8 a0 l1 t269 t270 t276 true))))) else (some false)))) = some r := by rw [if_neg (show ¬ (false = true) by decide)] at H; exact H
          clear H
          have H := H1
          clear H1
          replace H := Option.bind_eq_some_iff.mp H
          obtain ⟨t281, A230, H⟩ := H
          replace H : ((laws_eqDebtS.f kj8 t273 t281).bind fun t284 => (if t284 = true then ((laws_markDebtS.f kj8 t273 1).bind fun bt285 => (if bt285.1 < 0 then (laws_FnExactFindCircle.j1 kj8 a0 l1 t269 t270 t276 true) else ((laws_eqInt64S.f kj8 t276 t269).bind fun t287 => (if t287 = true then (laws_FnExactFindCircle.j1 kj8 a0 l1 t269 t270 t276 (t277 != t270)) else (laws_FnExactFindCircle.j1 kj8 a0 l1 t269 t270 t276 true))))) else (some false))) = some r := H
          have A23 := Aside0.mk A230
          clear A230
          replace H := Option.bind_eq_some_iff.mp H
          obtain ⟨t284, A240, H⟩ := H
          replace H : (if t284 = true then ((laws_markDebtS.f kj8 t273 1).bind fun bt285 => (if bt285.1 < 0 then (laws_FnExactFindCircle.j1 kj8 a0 l1 t269 t270 t276 true) else ((laws_eqInt64S.f kj8 t276 t269).bind fun t287 => (if t287 = true then (laws_FnExactFindCircle.j1 kj8 a0 l1 t269 t270 t276 (t277 != t270)) else (laws_FnExactFindCircle.j1 kj8 a0 l1 t269 t270 t276 true))))) else (some false)) = some r := H
          have A24 := Aside0.mk A240
          clear A240
          by_cases c25 : t284 = true
          · subst c25
            have H1 : ((laws_markDebtS.f kj8 t273 1).bind fun bt285 => (if bt285.1 < 0 then (laws_FnExactFindCircle.j1 kj8 a0 l1 t269 t270 t276 true) else ((laws_eqInt64S.f kj8 t276 t269).bind fun t287 => (if t287 = true then (laws_FnExactFindCircle.j1 kj8 a0 l1 t269 t270 t276 (t277 != t270)) else (laws_FnExactFindCircle.j1 kj8 a0 l1 t269 t270 t276 true))))) = some r := by rw [if_pos rfl] at H; exact H
            clear H
            have H := H1
            clear H1
            replace H := Option.bind_eq_some_iff.mp H
            obtain ⟨⟨t285, t286⟩, A260, H⟩ := H
            replace H : (if t285 < 0 then (laws_FnExactFindCircle.j1 kj8 a0 l1 t269 t270 t276 true) else ((laws_eqInt64S.f kj8 t276 t269).bind fun t287 => (if t287 = true then (laws_FnExactFindCircle.j1 kj8 a0 l1 t269 t270 t276 (t277 != t270)) else (laws_FnExactFindCircle.j1 kj8 a0 l1 t269 t270 t276 true)))) = some r := H
            have A26 := Aside0.mk A260
            clear A260
            have HC27 := Aside0.mk H
            clear H
            go_upto_region 14 with (first | ((with_reducible refine gate_callee (f := 17) rfl ?_); refine goesL_ (some 47) rfl rfl Try.func17 (by kernel_rfl) rfl #[.slice A1 l1.length c1] rfl (by (try simp only [List.map_toArray, List.map_cons, List.map_nil]); first | done | (go_simp; done) | rfl | (simp only [List.length_drop, List.length_take]; rfl)) ?_; (with_reducible refine (laws_toDebtS.calls kj8 _ _ l1 t281 _ ?side1 ?side2 A23.out).mono ?_); (case side1 => repeat (first | exact (Kd.C_below HR1.out HB.out) | (with_reducible refine Kd.C_alloc ?_ _) | (with_reducible refine Kd.C_drewN ?_ _) | (with_reducible refine Kd.C_drew ?_))); (case side2 => exact HC1.out); rintro e w28 ⟨v282, rfl, ho0, hb⟩; refine ⟨_, rfl, ?_⟩; have n0_ := Aside0.mk (Kd.R_below (by (with_reducible repeat (first | apply Kd.R_alloc | apply Kd.R_drewN | apply Kd.R_drew)); exact HO_6.out) hb); have n1_ := Aside0.mk (Kd.R_elder' (by (with_reducible repeat (first | apply Kd.R_alloc | apply Kd.R_drewN | apply Kd.R_drew)); exact HO_8.out) (Kd.R_base ho0) hb); have n2_ := Aside0.mk (Kd.R_below (by (with_reducible repeat (first | apply Kd.R_alloc | apply Kd.R_drewN | apply Kd.R_drew)); exact HO_9.out) hb); have n3_ := Aside0.mk (Kd.R_lower (Kd.R_new' ho0 (Kd.R_lt (by (with_reducible repeat (first | apply Kd.R_alloc | apply Kd.R_drewN | apply Kd.R_drew)); exact HO_8.out))) (below_size (by repeat (first | (with_reducible first | exact HB.out | apply below_alloc | apply pw_below_drewN | apply below_drew1) | exact HB.out)))); have n4_ := Aside0.mk (below_step (by repeat (first | (with_reducible first | exact HB.out | apply below_alloc | apply pw_below_drewN | apply below_drew1) | exact HB.out)) hb); clear HO_6; clear HO_8; clear HO_9; clear HB; have HO_6 := n0_; have HO_8 := n1_; have HO_9 := n2_; have HO283 := n3_; have HB := n4_; clear n0_ n1_ n2_ n3_ n4_; (try clear hb); (try clear hb2); (try clear hk); (try clear hi); (try clear ho0); obtain ⟨Ao29, co29, eo29⟩ := Kd.R_slice HO283.out; subst eo29) | ((with_reducible refine gate_callee (f := 19) rfl ?_); refine goesL_ (some 48) rfl rfl Try.func19 (by kernel_rfl) rfl #[.slice Ao14 t273.length co14, .slice Ao29 t281.length co29] rfl (by (try simp only [List.map_toArray, List.map_cons, List.map_nil]); first | done | (go_simp; done) | rfl | (simp only [List.length_drop, List.length_take]; rfl)) ?_; (with_reducible refine (laws_eqDebtS.calls kj8 _ _ t273 _ _ t281 true _ ?side1 ?side2 ?side3 ?side4 A24.out).mono ?_); (case side1 => repeat (first | exact (Kd.R_reads' HO_8.out).2.2 | (with_reducible refine Kd.C_alloc ?_ _) | (with_reducible refine Kd.C_drewN ?_ _) | (with_reducible refine Kd.C_drew ?_))); (case side2 => exact (Kd.R_reads' HO_8.out).2.1); (case side3 => repeat (first | exact (Kd.R_reads' HO283.out).2.2 | (with_reducible refine Kd.C_alloc ?_ _) | (with_reducible refine Kd.C_drewN ?_ _) | (with_reducible refine Kd.C_drew ?_))); (case side4 => exact (Kd.R_reads' HO283.out).2.1); rintro e w30 ⟨rfl, hb⟩; refine ⟨_, rfl, ?_⟩; have n0_ := Aside0.mk (Kd.R_below (by (with_reducible repeat (first | apply Kd.R_alloc | apply Kd.R_drewN | apply Kd.R_drew)); exact HO_6.out) hb); have n1_ := Aside0.mk (Kd.R_below (by (with_reducible repeat (first | apply Kd.R_alloc | apply Kd.R_drewN | apply Kd.R_drew)); exact HO_8.out) hb); have n2_ := Aside0.mk (Kd.R_below (by (with_reducible repeat (first | apply Kd.R_alloc | apply Kd.R_drewN | apply Kd.R_drew)); exact HO_9.out) hb); have n3_ := Aside0.mk (Kd.R_below (by (with_reducible repeat (first | apply Kd.R_alloc | apply Kd.R_drewN | apply Kd.R_drew)); exact HO283.out) hb); have n4_ := Aside0.mk (below_step (by repeat (first | (with_reducible first | exact HB.out | apply below_alloc | apply pw_below_drewN | apply below_drew1) | exact HB.out)) hb); clear HO_6; clear HO_8; clear HO_9; clear HO283; clear HB; have HO_6 := n0_; have HO_8 := n1_; have HO_9 := n2_; have HO283 := n3_; have HB := n4_; clear n0_ n1_ n2_ n3_ n4_; (try clear hb); (try clear hb2); (try clear hk); (try clear hi)) | ((with_reducible refine gate_callee (f := 22) rfl ?_); refine goesL_ (some 52) rfl rfl Try.func22 (by kernel_rfl) rfl #[.slice Ao14 t273.length co14, .int .i64 1] rfl (by (try simp only [List.map_toArray, List.map_cons, List.map_nil]); first | done | (go_simp; done) | rfl | (simp only [List.length_drop, List.length_take]; rfl)) ?_; (with_reducible refine (laws_markDebtS.calls kj8 (fun k_ => some k_ = (.slice Ao14 t273.length co14 : Value).ownBlock) (.slice Ao14 t273.length co14) t273 1 t285 t286 w _ ?side1 ?side2 A26.out).mono ?_); (case side1 => repeat (first | (with_reducible first | exact HB.out | apply below_alloc | apply pw_below_drewN | apply below_drew1) | exact HB.out)); (case side2 => exact Kd.R_tight rfl HO_8.out); rintro e w31 ⟨rfl, hy0, hb, hkp⟩; refine ⟨_, rfl, ?_⟩; have n0_ := Aside0.mk (Kd.R_mono (ok' := fun k_ => some k_ ≠ (v278 : Value).ownBlock) (Kd.R_keptB ((Kd.R_apart' HO_6.out (Kd.R_typed HO_8.out) (by decide))) hkp (fun k_ hk_ hs_ => (hk_.2) hs_)) (fun k_ hk_ => hk_.1.1)); have n1_ := Aside0.mk (Kd.R_reok rfl hy0 (fun k_ e_ => HO_8.out.1 k_ e_)); have n2_ := Aside0.mk (Kd.R_mono (ok' := fun k_ => some k_ ≠ (v271 : Value).ownBlock) (Kd.R_keptB ((Kd.R_apart' HO_9.out (Kd.R_typed HO_8.out) (by decide))) hkp (fun k_ hk_ hs_ => (hk_.2) hs_)) (fun k_ hk_ => hk_.1.1)); have n3_ := Aside0.mk (Kd.R_mono (ok' := fun k_ => some k_ ≠ (.slice Ao14 t273.length co14 : Value).ownBlock) (Kd.R_keptB (HO283.out) hkp (fun k_ hk_ hs_ => (hk_.2) hs_)) (fun k_ hk_ => hk_.1.2)); have n4_ := Aside0.mk (hb); clear HO_6; clear HO_8; clear HO_9; clear HO283; clear HB; have HO_6 := n0_; have HO_8 := n1_; have HO_9 := n2_; have HO283 := n3_; have HB := n4_; clear n0_ n1_ n2_ n3_ n4_; (try clear hb); (try clear hkp); (try clear hy0)))
            (try simp only [Act.put, List.setIfInBounds_toArray, List.set_cons_zero, List.set_cons_succ])
            go_cut [65] (fun v65 wc => ∃ (kq : Nat) (x65_26 : Bool), v65 = .bool x65_26 ∧ Aside0 (laws_FnExactFindCircle.j1 kq a0 l1 t269 t270 t276 x65_26 = some r) ∧ Aside0 (kq ≤ kj8) ∧ Aside0 (Kd.R (Kd.int .i64) 2 wc w.heap.size (fun k_ => some k_ ≠ (v278 : Value).ownBlock) v271 t269) ∧ Aside0 (Kd.R (Kd.int .i64) 2 wc w.heap.size (fun k_ => some k_ ≠ (v271 : Value).ownBlock) v278 t276) ∧ Aside0 (Below w.heap.size w wc))
            case first =>
              have H := HC27.out
              clear HC27
              by_cases c32 : t285 < 0
              · rw [if_pos c32] at H
                have c32b0 : decide (t285 < 0) = true := decide_eq_true c32
                clear c32
                (first | rw [c32b0] | (simp only [i64_w, i32_w]; rw [c32b0]) | skip)
                have H' := Aside0.mk H
                clear H
                go_wp2
                go_meet
                case rel => exact ⟨_, (true), (by first | rfl | (simp; done) | (simp [*]; done)), H', ⟨by have := HJ8.out; first | omega | exact Nat.le_refl _⟩, ⟨by (with_reducible repeat (first | apply Kd.R_alloc | apply Kd.R_drewN | apply Kd.R_drew)); exact HO_6.out⟩, ⟨by (with_reducible repeat (first | apply Kd.R_alloc | apply Kd.R_drewN | apply Kd.R_drew)); exact HO_9.out⟩, ⟨by repeat (first | (with_reducible first | exact HB.out | apply below_alloc | apply pw_below_drewN | apply below_drew1) | exact HB.out)⟩⟩
              · rw [if_neg c32] at H
                have c32b0 : decide (t285 < 0) = false := decide_eq_false c32
                clear c32
                (first | rw [c32b0] | (simp only [i64_w, i32_w]; rw [c32b0]) | skip)
                replace H := Option.bind_eq_some_iff.mp H
                obtain ⟨t287, A330, H⟩ := H
                replace H : (if t287 = true then (laws_FnExactFindCircle.j1 kj8 a0 l1 t269 t270 t276 (t277 != t270)) else (laws_FnExactFindCircle.j1 kj8 a0 l1 t269 t270 t276 true)) = some r := H
                have A33 := Aside0.mk A330
                clear A330
                by_cases c34 : t287 = true
                · subst c34
                  have H1 : (laws_FnExactFindCircle.j1 kj8 a0 l1 t269 t270 t276 (t277 != t270)) = some r := by rw [if_pos rfl] at H; exact H
                  clear H
                  have H := H1
                  clear H1
                  have H' := Aside0.mk H
                  clear H
                  obtain ⟨Ao35, co35, eo35⟩ := Kd.R_slice HO_9.out
                  subst eo35
                  obtain ⟨Ao36, co36, eo36⟩ := Kd.R_slice HO_6.out
                  subst eo36
                  go_wp2_with (first | (go_at_call 28; (with_reducible refine (laws_eqInt64S.calls kj8 _ _ t276 _ _ t269 true _ ?side1 ?side2 ?side3 ?side4 A33.out).mono ?_); (case side1 => repeat (first | exact (Kd.R_reads' HO_9.out).2.2 | (with_reducible refine Kd.C_alloc ?_ _) | (with_reducible refine Kd.C_drewN ?_ _) | (with_reducible refine Kd.C_drew ?_))); (case side2 => exact (Kd.R_reads' HO_9.out).2.1); (case side3 => repeat (first | exact (Kd.R_reads' HO_6.out).2.2 | (with_reducible refine Kd.C_alloc ?_ _) | (with_reducible refine Kd.C_drewN ?_ _) | (with_reducible refine Kd.C_drew ?_))); (case side4 => exact (Kd.R_reads' HO_6.out).2.1); rintro e w' ⟨rfl, ⟨nd, rfl⟩⟩))
                  go_meet
                  case rel => exact ⟨_, ((t277 != t270)), (by first | rfl | (simp; done) | (simp [*]; done)), H', ⟨by have := HJ8.out; first | omega | exact Nat.le_refl _⟩, ⟨by (with_reducible repeat (first | apply Kd.R_alloc | apply Kd.R_drewN | apply Kd.R_drew)); exact HO_6.out⟩, ⟨by (with_reducible repeat (first | apply Kd.R_alloc | apply Kd.R_drewN | apply Kd.R_drew)); exact HO_9.out⟩, ⟨by repeat (first | (with_reducible first | exact HB.out | apply below_alloc | apply pw_below_drewN | apply below_drew1) | exact HB.out)⟩⟩
                · replace c34 := Bool.eq_false_iff.mpr c34
                  subst c34
                  have H1 : (laws_FnExactFindCircle.j1 kj8 a0 l1 t269 t270 t276 true) = some r := by rw [if_neg (show ¬ (false = true) by decide)] at H; exact H
                  clear H
                  have H := H1
                  clear H1
                  have H' := Aside0.mk H
                  clear H
                  obtain ⟨Ao37, co37, eo37⟩ := Kd.R_slice HO_9.out
                  subst eo37
                  obtain ⟨Ao38, co38, eo38⟩ := Kd.R_slice HO_6.out
                  subst eo38
                  go_wp2_with (first | (go_at_call 28; (with_reducible refine (laws_eqInt64S.calls kj8 _ _ t276 _ _ t269 false _ ?side1 ?side2 ?side3 ?side4 A33.out).mono ?_); (case side1 => repeat (first | exact (Kd.R_reads' HO_9.out).2.2 | (with_reducible refine Kd.C_alloc ?_ _) | (with_reducible refine Kd.C_drewN ?_ _) | (with_reducible refine Kd.C_drew ?_))); (case side2 => exact (Kd.R_reads' HO_9.out).2.1); (case side3 => repeat (first | exact (Kd.R_reads' HO_6.out).2.2 | (with_reducible refine Kd.C_alloc ?_ _) | (with_reducible refine Kd.C_drewN ?_ _) | (with_reducible refine Kd.C_drew ?_))); (case side4 => exact (Kd.R_reads' HO_6.out).2.1); rintro e w' ⟨rfl, ⟨nd, rfl⟩⟩))
                  go_meet
                  case rel => exact ⟨_, (true), (by first | rfl | (simp; done) | (simp [*]; done)), H', ⟨by have := HJ8.out; first | omega | exact Nat.le_refl _⟩, ⟨by (with_reducible repeat (first | apply Kd.R_alloc | apply Kd.R_drewN | apply Kd.R_drew)); exact HO_6.out⟩, ⟨by (with_reducible repeat (first | apply Kd.R_alloc | apply Kd.R_drewN | apply Kd.R_drew)); exact HO_9.out⟩, ⟨by repeat (first | (with_reducible first | exact HB.out | apply below_alloc | apply pw_below_drewN | apply below_drew1) | exact HB.out)⟩⟩
            case rest =>
              clear HC27
              try clear c1
              try clear c2
              try clear p2
              try clear c3
              try clear c4
              try clear c4b0
              try clear c6
              try clear c15
              try clear c17
              try clear c19
              try clear c22
              try clear c25
              try clear c26
              try clear c27
              try clear c28
              try clear c32
              try clear c32b0
              try clear c34
              try clear p2
              obtain ⟨kq, x65_26, rfl, HA, HJ26, HO_6, HO_9, HB⟩ := hcut
              cases kq with
              | zero => exact absurd HA.out (by simp [laws_FnExactFindCircle.j1])
              | succ kj26 =>
                have H := HA.out
                clear HA
                simp only [laws_FnExactFindCircle.j1] at H
                by_cases c39 : x65_26 = true
                · subst c39
                  have H1 : (some false) = some r := by rw [if_pos rfl] at H; exact H
                  clear H
                  have H := H1
                  clear H1
                  obtain rfl := Option.some.inj H
                  cases ht
                · replace c39 := Bool.eq_false_iff.mpr c39
                  subst c39
                  have H1 : ((laws_markInt64S.f kj26 t276 1).bind fun bt288 => ((laws_heldInt64S.f kj26 bt288.2 1).bind fun t290 => (if t290 < 0 then (some false) else (if t290 = bt288.1 then ((laws_toDebtS.f kj26 l1).bind fun t291 => ((impl_FindCircle.f kj26 a0 t291).bind fun bt294 => ((laws_eqInt64S.f kj26 bt294.1 t269).bind fun t298 => (if t298 = true then (laws_FnExactFindCircle.j2 kj26 bt288.2 bt288.1 (bt294.2 != t270)) else (laws_FnExactFindCircle.j2 kj26 bt288.2 bt288.1 true))))) else (some false))))) = some r := by rw [if_neg (show ¬ (false = true) by decide)] at H; exact H
                  clear H
                  have H := H1
                  clear H1
                  replace H := Option.bind_eq_some_iff.mp H
                  obtain ⟨⟨t288, t289⟩, A400, H⟩ := H
                  replace H : ((laws_heldInt64S.f kj26 t289 1).bind fun t290 => (if t290 < 0 then (some false) else (if t290 = t288 then ((laws_toDebtS.f kj26 l1).bind fun t291 => ((impl_FindCircle.f kj26 a0 t291).bind fun bt294 => ((laws_eqInt64S.f kj26 bt294.1 t269).bind fun t298 => (if t298 = true then (laws_FnExactFindCircle.j2 kj26 t289 t288 (bt294.2 != t270)) else (laws_FnExactFindCircle.j2 kj26 t289 t288 true))))) else (some false)))) = some r := H
                  have A40 := Aside0.mk A400
                  clear A400
                  replace H := Option.bind_eq_some_iff.mp H
                  obtain ⟨t290, A410, H⟩ := H
                  replace H : (if t290 < 0 then (some false) else (if t290 = t288 then ((laws_toDebtS.f kj26 l1).bind fun t291 => ((impl_FindCircle.f kj26 a0 t291).bind fun bt294 => ((laws_eqInt64S.f kj26 bt294.1 t269).bind fun t298 => (if t298 = true then (laws_FnExactFindCircle.j2 kj26 t289 t288 (bt294.2 != t270)) else (laws_FnExactFindCircle.j2 kj26 t289 t288 true))))) else (some false))) = some r := H
                  have A41 := Aside0.mk A410
                  clear A410
                  by_cases c42 : t290 < 0
                  · rw [if_pos c42] at H
                    have c42b0 : decide (t290 < 0) = true := decide_eq_true c42
                    clear c42
                    obtain rfl := Option.some.inj H
                    cases ht
                  · rw [if_neg c42] at H
                    have c42b0 : decide (t290 < 0) = false := decide_eq_false c42
                    clear c42
                    by_cases c43 : t290 = t288
                    · rw [if_pos c43] at H
                      have c43b0 : (t290 == t288) = true := beq_iff_eq.mpr c43
                      have c43b1 : (t290 != t288) = false := bne_eq_false_iff_eq.mpr c43
                      clear c43
                      replace H := Option.bind_eq_some_iff.mp H
                      obtain ⟨t291, A440, H⟩ := H
                      replace H : ((impl_FindCircle.f kj26 a0 t291).bind fun bt294 => ((laws_eqInt64S.f kj26 bt294.1 t269).bind fun t298 => (if t298 = true then (laws_FnExactFindCircle.j2 kj26 t289 t288 (bt294.2 != t270)) else (laws_FnExactFindCircle.j2 kj26 t289 t288 true)))) = some r := H
                      have A44 := Aside0.mk A440
                      clear A440
                      replace H := Option.bind_eq_some_iff.mp H
                      obtain ⟨⟨t294, t295⟩, A450, H⟩ := H
                      replace H : ((laws_eqInt64S.f kj26 t294 t269).bind fun t298 => (if t298 = true then (laws_FnExactFindCircle.j2 kj26 t289 t288 (t295 != t270)) else (laws_FnExactFindCircle.j2 kj26 t289 t288 true))) = some r := H
                      have A45 := Aside0.mk A450
                      clear A450
                      have HC46 := Aside0.mk H
                      clear H
                      obtain ⟨Ao47, co47, eo47⟩ := Kd.R_slice HO_9.out
                      subst eo47
                      go_upto_region 25 with (first | ((with_reducible refine gate_callee (f := 29) rfl ?_); refine goesL_ (some 68) rfl rfl Try.func29 (by kernel_rfl) rfl #[.slice Ao47 t276.length co47, .int .i64 1] rfl (by (try simp only [List.map_toArray, List.map_cons, List.map_nil]); first | done | (go_simp; done) | rfl | (simp only [List.length_drop, List.length_take]; rfl)) ?_; (with_reducible refine (laws_markInt64S.calls kj26 (fun k_ => some k_ = (.slice Ao47 t276.length co47 : Value).ownBlock) (.slice Ao47 t276.length co47) t276 1 t288 t289 w _ ?side1 ?side2 A40.out).mono ?_); (case side1 => repeat (first | (with_reducible first | exact HB.out | apply below_alloc | apply pw_below_drewN | apply below_drew1) | exact HB.out)); (case side2 => exact Kd.R_tight rfl HO_9.out); rintro e w48 ⟨rfl, hy0, hb, hkp⟩; refine ⟨_, rfl, ?_⟩; have n0_ := Aside0.mk (Kd.R_mono (ok' := fun k_ => some k_ ≠ (.slice Ao47 t276.length co47 : Value).ownBlock) (Kd.R_keptB (HO_6.out) hkp (fun k_ hk_ hs_ => (hk_) hs_)) (fun k_ hk_ => hk_.1)); have n1_ := Aside0.mk (Kd.R_reok rfl hy0 (fun k_ e_ => HO_9.out.1 k_ e_)); have n2_ := Aside0.mk (hb); clear HO_6; clear HO_9; clear HB; have HO_6 := n0_; have HO_9 := n1_; have HB := n2_; clear n0_ n1_ n2_; (try clear hb); (try clear hkp); (try clear hy0)) | ((with_reducible refine gate_callee (f := 30) rfl ?_); refine goesL_ (some 71) rfl rfl Try.func30 (by kernel_rfl) rfl #[.slice Ao47 t289.length co47, .int .i64 1] rfl (by (try simp only [List.map_toArray, List.map_cons, List.map_nil]); first | done | (rw [show t289.length = t276.length from (Kd.R_reads' HO_9.out).1.symm] <;> rfl) | (go_simp; done) | rfl | (simp only [List.length_drop, List.length_take]; rfl)) ?_; (with_reducible refine (laws_heldInt64S.calls kj26 _ _ t289 1 t290 _ ?side1 ?side2 A41.out).mono ?_); (case side1 => repeat (first | exact (Kd.R_reads' HO_9.out).2.2 | (with_reducible refine Kd.C_alloc ?_ _) | (with_reducible refine Kd.C_drewN ?_ _) | (with_reducible refine Kd.C_drew ?_))); (case side2 => rw [show t289.length = t276.length from (Kd.R_reads' HO_9.out).1.symm]; exact (Kd.R_reads' HO_9.out).2.1); rintro e w' ⟨rfl, ⟨nd, rfl⟩⟩; refine ⟨_, rfl, ?_⟩) | ((with_reducible refine gate_callee (f := 17) rfl ?_); refine goesL_ (some 80) rfl rfl Try.func17 (by kernel_rfl) rfl #[.slice A1 l1.length c1] rfl (by (try simp only [List.map_toArray, List.map_cons, List.map_nil]); first | done | (go_simp; done) | rfl | (simp only [List.length_drop, List.length_take]; rfl)) ?_; (with_reducible refine (laws_toDebtS.calls kj26 _ _ l1 t291 _ ?side1 ?side2 A44.out).mono ?_); (case side1 => repeat (first | exact (Kd.C_below HR1.out (by repeat (first | (with_reducible first | exact HB.out | apply below_alloc | apply pw_below_drewN | apply below_drew1) | exact HB.out))) | (with_reducible refine Kd.C_alloc ?_ _) | (with_reducible refine Kd.C_drewN ?_ _) | (with_reducible refine Kd.C_drew ?_))); (case side2 => exact HC1.out); rintro e w49 ⟨v292, rfl, ho0, hb⟩; refine ⟨_, rfl, ?_⟩; have n0_ := Aside0.mk (Kd.R_below (by (with_reducible repeat (first | apply Kd.R_alloc | apply Kd.R_drewN | apply Kd.R_drew)); exact HO_6.out) hb); have n1_ := Aside0.mk (Kd.R_below (by (with_reducible repeat (first | apply Kd.R_alloc | apply Kd.R_drewN | apply Kd.R_drew)); exact HO_9.out) hb); have n2_ := Aside0.mk (Kd.R_lower ho0 (below_size (by repeat (first | (with_reducible first | exact HB.out | apply below_alloc | apply pw_below_drewN | apply below_drew1) | exact HB.out)))); have n3_ := Aside0.mk (below_step (by repeat (first | (with_reducible first | exact HB.out | apply below_alloc | apply pw_below_drewN | apply below_drew1) | exact HB.out)) hb); clear HO_6; clear HO_9; clear HB; have HO_6 := n0_; have HO_9 := n1_; have HO293 := n2_; have HB := n3_; clear n0_ n1_ n2_ n3_; (try clear hb); (try clear hb2); (try clear hk); (try clear hi); (try clear ho0); obtain ⟨Ao50, co50, eo50⟩ := Kd.R_slice HO293.out; subst eo50) | ((with_reducible refine gate_callee (f := 27) rfl ?_); refine goesL_ (some 81) rfl rfl Try.func27 (by kernel_rfl) rfl #[.int .i64 a0, .slice Ao50 t291.length co50] rfl (by (try simp only [List.map_toArray, List.map_cons, List.map_nil]); first | done | (go_simp; done) | rfl | (simp only [List.length_drop, List.length_take]; rfl)) ?_; (with_reducible refine (impl_FindCircle.calls kj26 a0 _ _ t291 t294 t295 _ ?side1 ?side2 A45.out).mono ?_); (case side1 => repeat (first | exact (Kd.R_reads' HO293.out).2.2 | (with_reducible refine Kd.C_alloc ?_ _) | (with_reducible refine Kd.C_drewN ?_ _) | (with_reducible refine Kd.C_drew ?_))); (case side2 => exact (Kd.R_reads' HO293.out).2.1); rintro e w51 ⟨v296, rfl, ho0, hb⟩; refine ⟨_, rfl, ?_⟩; have n0_ := Aside0.mk (Kd.R_elder' (by (with_reducible repeat (first | apply Kd.R_alloc | apply Kd.R_drewN | apply Kd.R_drew)); exact HO_6.out) (Kd.R_base ho0) hb); have n1_ := Aside0.mk (Kd.R_elder' (by (with_reducible repeat (first | apply Kd.R_alloc | apply Kd.R_drewN | apply Kd.R_drew)); exact HO_9.out) (Kd.R_base ho0) hb); have n2_ := Aside0.mk (Kd.R_below (by (with_reducible repeat (first | apply Kd.R_alloc | apply Kd.R_drewN | apply Kd.R_drew)); exact HO293.out) hb); have n3_ := Aside0.mk (Kd.R_lower (Kd.R_new' (Kd.R_new' ho0 (Kd.R_lt (by (with_reducible repeat (first | apply Kd.R_alloc | apply Kd.R_drewN | apply Kd.R_drew)); exact HO_6.out))) (Kd.R_lt (by (with_reducible repeat (first | apply Kd.R_alloc | apply Kd.R_drewN | apply Kd.R_drew)); exact HO_9.out))) (below_size (by repeat (first | (with_reducible first | exact HB.out | apply below_alloc | apply pw_below_drewN | apply below_drew1) | exact HB.out)))); have n4_ := Aside0.mk (below_step (by repeat (first | (with_reducible first | exact HB.out | apply below_alloc | apply pw_below_drewN | apply below_drew1) | exact HB.out)) hb); clear HO_6; clear HO_9; clear HO293; clear HB; have HO_6 := n0_; have HO_9 := n1_; have HO293 := n2_; have HO297 := n3_; have HB := n4_; clear n0_ n1_ n2_ n3_ n4_; (try clear hb); (try clear hb2); (try clear hk); (try clear hi); (try clear ho0)))
                      (try simp only [Act.put, List.setIfInBounds_toArray, List.set_cons_zero, List.set_cons_succ])
                      go_cut [92] (fun v92 wc => ∃ (kq : Nat) (x92_45 : Bool), v92 = .bool x92_45 ∧ Aside0 (laws_FnExactFindCircle.j2 kq t289 t288 x92_45 = some r) ∧ Aside0 (kq ≤ kj26) ∧ Aside0 (Kd.R (Kd.int .i64) 2 wc w.heap.size (fun _ => True) (.slice Ao47 t276.length co47) t289) ∧ Aside0 (Below w.heap.size w wc))
                      case first =>
                        have H := HC46.out
                        clear HC46
                        replace H := Option.bind_eq_some_iff.mp H
                        obtain ⟨t298, A520, H⟩ := H
                        replace H : (if t298 = true then (laws_FnExactFindCircle.j2 kj26 t289 t288 (t295 != t270)) else (laws_FnExactFindCircle.j2 kj26 t289 t288 true)) = some r := H
                        have A52 := Aside0.mk A520
                        clear A520
                        by_cases c53 : t298 = true
                        · subst c53
                          have H1 : (laws_FnExactFindCircle.j2 kj26 t289 t288 (t295 != t270)) = some r := by rw [if_pos rfl] at H; exact H
                          clear H
                          have H := H1
                          clear H1
                          have H' := Aside0.mk H
                          clear H
                          obtain ⟨Ao54, co54, eo54⟩ := Kd.R_slice HO297.out
                          subst eo54
                          obtain ⟨Ao55, co55, eo55⟩ := Kd.R_slice HO_6.out
                          subst eo55
                          go_wp2_with (first | ((with_reducible refine gate_callee (f := 28) rfl ?_); refine goesL_ (some 86) rfl rfl Try.func28 (by kernel_rfl) rfl #[.slice Ao54 t294.length co54, .slice Ao55 t269.length co55] rfl (by (try simp only [List.map_toArray, List.map_cons, List.map_nil]); first | done | (go_simp; done) | rfl | (simp only [List.length_drop, List.length_take]; rfl)) ?_; (with_reducible refine (laws_eqInt64S.calls kj26 _ _ t294 _ _ t269 true _ ?side1 ?side2 ?side3 ?side4 A52.out).mono ?_); (case side1 => repeat (first | exact (Kd.R_reads' HO297.out).2.2 | (with_reducible refine Kd.C_alloc ?_ _) | (with_reducible refine Kd.C_drewN ?_ _) | (with_reducible refine Kd.C_drew ?_))); (case side2 => exact (Kd.R_reads' HO297.out).2.1); (case side3 => repeat (first | exact (Kd.R_reads' HO_6.out).2.2 | (with_reducible refine Kd.C_alloc ?_ _) | (with_reducible refine Kd.C_drewN ?_ _) | (with_reducible refine Kd.C_drew ?_))); (case side4 => exact (Kd.R_reads' HO_6.out).2.1); rintro e w' ⟨rfl, ⟨nd, rfl⟩⟩; refine ⟨_, rfl, ?_⟩))
                          go_meet
                          case rel => exact ⟨_, ((t295 != t270)), (by first | rfl | (simp; done) | (simp [*]; done)), H', ⟨by have := HJ8.out; have := HJ26.out; first | omega | exact Nat.le_refl _⟩, ⟨by (with_reducible repeat (first | apply Kd.R_alloc | apply Kd.R_drewN | apply Kd.R_drew)); exact Kd.R_mono HO_9.out (fun _ hk => trivial)⟩, ⟨by repeat (first | (with_reducible first | exact HB.out | apply below_alloc | apply pw_below_drewN | apply below_drew1) | exact HB.out)⟩⟩
                        · replace c53 := Bool.eq_false_iff.mpr c53
                          subst c53
                          have H1 : (laws_FnExactFindCircle.j2 kj26 t289 t288 true) = some r := by rw [if_neg (show ¬ (false = true) by decide)] at H; exact H
                          clear H
                          have H := H1
                          clear H1
                          have H' := Aside0.mk H
                          clear H
                          obtain ⟨Ao56, co56, eo56⟩ := Kd.R_slice HO297.out
                          subst eo56
                          obtain ⟨Ao57, co57, eo57⟩ := Kd.R_slice HO_6.out
                          subst eo57
                          go_wp2_with (first | ((with_reducible refine gate_callee (f := 28) rfl ?_); refine goesL_ (some 86) rfl rfl Try.func28 (by kernel_rfl) rfl #[.slice Ao56 t294.length co56, .slice Ao57 t269.length co57] rfl (by (try simp only [List.map_toArray, List.map_cons, List.map_nil]); first | done | (go_simp; done) | rfl | (simp only [List.length_drop, List.length_take]; rfl)) ?_; (with_reducible refine (laws_eqInt64S.calls kj26 _ _ t294 _ _ t269 false _ ?side1 ?side2 ?side3 ?side4 A52.out).mono ?_); (case side1 => repeat (first | exact (Kd.R_reads' HO297.out).2.2 | (with_reducible refine Kd.C_alloc ?_ _) | (with_reducible refine Kd.C_drewN ?_ _) | (with_reducible refine Kd.C_drew ?_))); (case side2 => exact (Kd.R_reads' HO297.out).2.1); (case side3 => repeat (first | exact (Kd.R_reads' HO_6.out).2.2 | (with_reducible refine Kd.C_alloc ?_ _) | (with_reducible refine Kd.C_drewN ?_ _) | (with_reducible refine Kd.C_drew ?_))); (case side4 => exact (Kd.R_reads' HO_6.out).2.1); rintro e w' ⟨rfl, ⟨nd, rfl⟩⟩; refine ⟨_, rfl, ?_⟩))
                          go_meet
                          case rel => exact ⟨_, (true), (by first | rfl | (simp; done) | (simp [*]; done)), H', ⟨by have := HJ8.out; have := HJ26.out; first | omega | exact Nat.le_refl _⟩, ⟨by (with_reducible repeat (first | apply Kd.R_alloc | apply Kd.R_drewN | apply Kd.R_drew)); exact Kd.R_mono HO_9.out (fun _ hk => trivial)⟩, ⟨by repeat (first | (with_reducible first | exact HB.out | apply below_alloc | apply pw_below_drewN | apply below_drew1) | exact HB.out)⟩⟩
                      case rest =>
                        clear HC46
                        try clear c1
                        try clear c2
                        try clear p2
                        try clear c3
                        try clear c4
                        try clear c4b0
                        try clear c5
                        try clear c6
                        try clear c15
                        try clear c17
                        try clear c19
                        try clear c22
                        try clear c25
                        try clear c26
                        try clear c27
                        try clear c28
                        try clear c29
                        try clear c30
                        try clear c32
                        try clear c32b0
                        try clear c34
                        try clear c39
                        try clear c42
                        try clear c42b0
                        try clear c43
                        try clear c43b0
                        try clear c43b1
                        try clear c53
                        try clear p2
                        obtain ⟨kq, x92_45, rfl, HA, HJ45, HO_9, HB⟩ := hcut
                        have hl9_45 := (Kd.R_reads' HO_9.out).1
                        rw [hl9_45] at HO_9
                        (try simp only [hl9_45])
                        cases kq with
                        | zero => exact absurd HA.out (by simp [laws_FnExactFindCircle.j2])
                        | succ kj45 =>
                          have H := HA.out
                          clear HA
                          simp only [laws_FnExactFindCircle.j2] at H
                          by_cases c58 : x92_45 = true
                          · subst c58
                            have H1 : (some false) = some r := by rw [if_pos rfl] at H; exact H
                            clear H
                            have H := H1
                            clear H1
                            obtain rfl := Option.some.inj H
                            cases ht
                          · replace c58 := Bool.eq_false_iff.mpr c58
                            subst c58
                            have H1 : ((laws_heldInt64S.f kj45 t289 1).bind fun t299 => (if t299 < 0 then (some false) else (if t299 = t288 then (some true) else (some false)))) = some r := by rw [if_neg (show ¬ (false = true) by decide)] at H; exact H
                            clear H
                            have H := H1
                            clear H1
                            replace H := Option.bind_eq_some_iff.mp H
                            obtain ⟨t299, A590, H⟩ := H
                            replace H : (if t299 < 0 then (some false) else (if t299 = t288 then (some true) else (some false))) = some r := H
                            have A59 := Aside0.mk A590
                            clear A590
                            by_cases c60 : t299 < 0
                            · rw [if_pos c60] at H
                              have c60b0 : decide (t299 < 0) = true := decide_eq_true c60
                              clear c60
                              obtain rfl := Option.some.inj H
                              cases ht
                            · rw [if_neg c60] at H
                              have c60b0 : decide (t299 < 0) = false := decide_eq_false c60
                              clear c60
                              by_cases c61 : t299 = t288
                              · rw [if_pos c61] at H
                                have c61b0 : (t299 == t288) = true := beq_iff_eq.mpr c61
                                have c61b1 : (t299 != t288) = false := bne_eq_false_iff_eq.mpr c61
                                clear c61
                                obtain rfl := Option.some.inj H
                                go_wp2_with (first | ((with_reducible refine gate_callee (f := 30) rfl ?_); refine goesL_ (some 95) rfl rfl Try.func30 (by kernel_rfl) rfl #[.slice Ao47 t289.length co47, .int .i64 1] rfl (by (try simp only [List.map_toArray, List.map_cons, List.map_nil]); first | done | (go_simp; done) | rfl | (simp only [List.length_drop, List.length_take]; rfl)) ?_; (with_reducible refine (laws_heldInt64S.calls kj45 _ _ t289 1 t299 _ ?side1 ?side2 A59.out).mono ?_); (case side1 => repeat (first | exact (Kd.R_reads' HO_9.out).2.2 | (with_reducible refine Kd.C_alloc ?_ _) | (with_reducible refine Kd.C_drewN ?_ _) | (with_reducible refine Kd.C_drew ?_))); (case side2 => exact (Kd.R_reads' HO_9.out).2.1); rintro e w' ⟨rfl, ⟨nd, rfl⟩⟩; refine ⟨_, rfl, ?_⟩))
                                go_ret
                                exact ⟨by first | rfl | (simp [errW_none, errW_some] <;> rfl) | (simp [*, errW_none, errW_some] <;> rfl), by repeat (first | (with_reducible first | exact HB.out | apply below_alloc | apply pw_below_drewN | apply below_drew1) | exact HB.out)⟩
                              · rw [if_neg c61] at H
                                have c61b0 : (t299 == t288) = false := beq_eq_false_iff_ne.mpr c61
                                have c61b1 : (t299 != t288) = true := bne_iff_ne.mpr c61
                                obtain rfl := Option.some.inj H
                                cases ht
                    · rw [if_neg c43] at H
                      have c43b0 : (t290 == t288) = false := beq_eq_false_iff_ne.mpr c43
                      have c43b1 : (t290 != t288) = true := bne_iff_ne.mpr c43
                      obtain rfl := Option.some.inj H
                      cases ht
          · replace c25 := Bool.eq_false_iff.mpr c25
            subst c25
            have H1 : (some false) = some r := by rw [if_neg (show ¬ (false = true) by decide)] at H; exact H
            clear H
            have H := H1
            clear H1
            obtain rfl := Option.some.inj H
            cases ht

end Go.Proofs.Ytofcgkcpkngocaa.MFindCircle
