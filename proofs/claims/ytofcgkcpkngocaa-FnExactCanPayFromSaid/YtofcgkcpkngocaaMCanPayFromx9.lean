-- by a program of this session, for this claim
import Derived.Test.YtofcgkcpkngocaaMCanPayFromx0
import Derived.Test.YtofcgkcpkngocaaMCanPayFromx1
import Derived.Test.YtofcgkcpkngocaaMCanPayFromx2
import Derived.Test.YtofcgkcpkngocaaMCanPayFromx6
import Derived.Test.YtofcgkcpkngocaaMCanPayFromx8
namespace Go.Proofs.Ytofcgkcpkngocaa.MCanPayFrom
open Go.RowKit Go.Proofs.YtofcgkcpkngocaaW.PrintWords Go.Proofs.YtofcgkcpkngocaaW.PrintLast Go.Proofs.YtofcgkcpkngocaaW.PrintMore
attribute [local go_sem] max2_int min2_int max_two min_two max_three min_three max_four min_four   -- for this text's walks alone
set_option linter.unusedVariables false
set_option linter.unusedSimpArgs false

/-! ### laws_FnExactCanPayFrom: function 12 -/
mutual
def laws_FnExactCanPayFrom.j0 : Nat → Int → List (S67) → List Int → List Int → Int → List (S65) → List Int → List Int → Int → Bool → Option (Bool)
  | 0, _, _, _, _, _, _, _, _, _, _ => none
  | k + 1, x0, x1, x2, x8, x9, x10, x11, x12, x13, x55 => if x55 = true then (some false) else ((laws_toDebtS.f k x1).bind fun t246 => ((laws_eqDebtS.f k x10 t246).bind fun t249 => (if t249 = true then ((laws_toInt64S.f k x2).bind fun t250 => ((laws_eqInt64S.f k x11 t250).bind fun t253 => (if t253 = true then ((laws_markDebtS.f k x10 1).bind fun bt254 => ((laws_markInt64S.f k x11 bt254.1).bind fun bt256 => (if bt256.1 < 0 then (laws_FnExactCanPayFrom.j1 k x0 x1 x2 x8 x9 x12 true) else ((laws_eqInt64S.f k x12 x8).bind fun t258 => (if t258 = true then (laws_FnExactCanPayFrom.j1 k x0 x1 x2 x8 x9 x12 (x13 != x9)) else (laws_FnExactCanPayFrom.j1 k x0 x1 x2 x8 x9 x12 true)))))) else (some false)))) else (some false))))
def laws_FnExactCanPayFrom.j1 : Nat → Int → List (S67) → List Int → List Int → Int → List Int → Bool → Option (Bool)
  | 0, _, _, _, _, _, _, _ => none
  | k + 1, x0, x1, x2, x8, x9, x12, x84 => if x84 = true then (some false) else ((laws_markInt64S.f k x12 1).bind fun bt259 => ((laws_heldInt64S.f k bt259.2 1).bind fun t261 => (if t261 < 0 then (some false) else (if t261 = bt259.1 then ((laws_toDebtS.f k x1).bind fun t262 => ((laws_toInt64S.f k x2).bind fun t265 => ((impl_CanPayFrom.f k x0 t262 t265).bind fun bt268 => ((laws_eqInt64S.f k bt268.1 x8).bind fun t272 => (if t272 = true then (laws_FnExactCanPayFrom.j2 k bt259.2 bt259.1 (bt268.2 != x9)) else (laws_FnExactCanPayFrom.j2 k bt259.2 bt259.1 true)))))) else (some false)))))
def laws_FnExactCanPayFrom.j2 : Nat → List Int → Int → Bool → Option (Bool)
  | 0, _, _, _ => none
  | k + 1, x12, x15, x113 => if x113 = true then (some false) else ((laws_heldInt64S.f k x12 1).bind fun t273 => (if t273 < 0 then (some false) else (if t273 = x15 then (some true) else (some false))))
end
def laws_FnExactCanPayFrom.f (k : Nat) (a0 : Int) (l1 : List (S67)) (l2 : List Int) : Option (Bool) := if (l2.length : Int) > 1048576 then (some true) else ((laws_szDebtS.f l1 1048576).bind fun t224 => (if t224 < 0 then (some true) else ((laws_toDebtS.f k l1).bind fun t225 => ((laws_toInt64S.f k l2).bind fun t228 => ((spec_CanPayFrom.f k a0 t225 t228).bind fun bt231 => ((laws_toDebtS.f k l1).bind fun t235 => ((laws_toInt64S.f k l2).bind fun t238 => ((impl_CanPayFrom.f k a0 t235 t238).bind fun bt241 => ((laws_eqInt64S.f k bt241.1 bt231.1).bind fun t245 => (if t245 = true then (laws_FnExactCanPayFrom.j0 k a0 l1 l2 bt231.1 bt231.2 t235 t238 bt241.1 bt241.2 (bt241.2 != bt231.2)) else (laws_FnExactCanPayFrom.j0 k a0 l1 l2 bt231.1 bt231.2 t235 t238 bt241.1 bt241.2 true)))))))))))
theorem laws_FnExactCanPayFrom.mono_l : ∀ k, (∀ y0 y1 y2 y3 y4 y5 y6 y7 y8 y9, LeO (laws_FnExactCanPayFrom.j0 k y0 y1 y2 y3 y4 y5 y6 y7 y8 y9) (laws_FnExactCanPayFrom.j0 (k + 1) y0 y1 y2 y3 y4 y5 y6 y7 y8 y9)) ∧ (∀ y0 y1 y2 y3 y4 y5 y6, LeO (laws_FnExactCanPayFrom.j1 k y0 y1 y2 y3 y4 y5 y6) (laws_FnExactCanPayFrom.j1 (k + 1) y0 y1 y2 y3 y4 y5 y6)) ∧ (∀ y0 y1 y2, LeO (laws_FnExactCanPayFrom.j2 k y0 y1 y2) (laws_FnExactCanPayFrom.j2 (k + 1) y0 y1 y2))
  | 0 => ⟨fun _ _ _ _ _ _ _ _ _ _ r h => by simp [laws_FnExactCanPayFrom.j0] at h, fun _ _ _ _ _ _ _ r h => by simp [laws_FnExactCanPayFrom.j1] at h, fun _ _ _ r h => by simp [laws_FnExactCanPayFrom.j2] at h⟩
  | k + 1 => by
    obtain ⟨ih0, ih1, ih2⟩ := laws_FnExactCanPayFrom.mono_l k
    refine ⟨?_, ?_, ?_⟩
    · intro y0 y1 y2 y3 y4 y5 y6 y7 y8 y9
      unfold laws_FnExactCanPayFrom.j0
      repeat' first
      | (with_reducible exact ih0 _ _ _ _ _ _ _ _ _ _)
      | (with_reducible exact ih1 _ _ _ _ _ _ _)
      | (with_reducible exact ih2 _ _ _)
      | (with_reducible exact impl_CanPayFrom.mono _ _ _ _)
      | (with_reducible exact laws_eqDebtS.mono _ _ _)
      | (with_reducible exact laws_eqInt64S.mono _ _ _)
      | (with_reducible exact laws_heldInt64S.mono _ _ _)
      | (with_reducible exact laws_markDebtS.mono _ _ _)
      | (with_reducible exact laws_markInt64S.mono _ _ _)
      | (with_reducible exact laws_toDebtS.mono _ _)
      | (with_reducible exact laws_toInt64S.mono _ _)
      | (with_reducible exact spec_CanPayFrom.mono _ _ _ _)
      | (with_reducible exact LeO.refl _)
      | (with_reducible exact LeO.none _)
      | (with_reducible refine LeO.ite ?_ ?_)
      | (with_reducible refine LeO.bind ?_ (fun _ => ?_))
      | exact ih0 _ _ _ _ _ _ _ _ _ _
      | exact ih1 _ _ _ _ _ _ _
      | exact ih2 _ _ _
      | exact impl_CanPayFrom.mono _ _ _ _
      | exact laws_eqDebtS.mono _ _ _
      | exact laws_eqInt64S.mono _ _ _
      | exact laws_heldInt64S.mono _ _ _
      | exact laws_markDebtS.mono _ _ _
      | exact laws_markInt64S.mono _ _ _
      | exact laws_toDebtS.mono _ _
      | exact laws_toInt64S.mono _ _
      | exact spec_CanPayFrom.mono _ _ _ _
      | exact LeO.none _
      | refine LeO.ite ?_ ?_
      | refine LeO.bind ?_ (fun _ => ?_)
    · intro y0 y1 y2 y3 y4 y5 y6
      unfold laws_FnExactCanPayFrom.j1
      repeat' first
      | (with_reducible exact ih0 _ _ _ _ _ _ _ _ _ _)
      | (with_reducible exact ih1 _ _ _ _ _ _ _)
      | (with_reducible exact ih2 _ _ _)
      | (with_reducible exact impl_CanPayFrom.mono _ _ _ _)
      | (with_reducible exact laws_eqDebtS.mono _ _ _)
      | (with_reducible exact laws_eqInt64S.mono _ _ _)
      | (with_reducible exact laws_heldInt64S.mono _ _ _)
      | (with_reducible exact laws_markDebtS.mono _ _ _)
      | (with_reducible exact laws_markInt64S.mono _ _ _)
      | (with_reducible exact laws_toDebtS.mono _ _)
      | (with_reducible exact laws_toInt64S.mono _ _)
      | (with_reducible exact spec_CanPayFrom.mono _ _ _ _)
      | (with_reducible exact LeO.refl _)
      | (with_reducible exact LeO.none _)
      | (with_reducible refine LeO.ite ?_ ?_)
      | (with_reducible refine LeO.bind ?_ (fun _ => ?_))
      | exact ih0 _ _ _ _ _ _ _ _ _ _
      | exact ih1 _ _ _ _ _ _ _
      | exact ih2 _ _ _
      | exact impl_CanPayFrom.mono _ _ _ _
      | exact laws_eqDebtS.mono _ _ _
      | exact laws_eqInt64S.mono _ _ _
      | exact laws_heldInt64S.mono _ _ _
      | exact laws_markDebtS.mono _ _ _
      | exact laws_markInt64S.mono _ _ _
      | exact laws_toDebtS.mono _ _
      | exact laws_toInt64S.mono _ _
      | exact spec_CanPayFrom.mono _ _ _ _
      | exact LeO.none _
      | refine LeO.ite ?_ ?_
      | refine LeO.bind ?_ (fun _ => ?_)
    · intro y0 y1 y2
      unfold laws_FnExactCanPayFrom.j2
      repeat' first
      | (with_reducible exact ih0 _ _ _ _ _ _ _ _ _ _)
      | (with_reducible exact ih1 _ _ _ _ _ _ _)
      | (with_reducible exact ih2 _ _ _)
      | (with_reducible exact impl_CanPayFrom.mono _ _ _ _)
      | (with_reducible exact laws_eqDebtS.mono _ _ _)
      | (with_reducible exact laws_eqInt64S.mono _ _ _)
      | (with_reducible exact laws_heldInt64S.mono _ _ _)
      | (with_reducible exact laws_markDebtS.mono _ _ _)
      | (with_reducible exact laws_markInt64S.mono _ _ _)
      | (with_reducible exact laws_toDebtS.mono _ _)
      | (with_reducible exact laws_toInt64S.mono _ _)
      | (with_reducible exact spec_CanPayFrom.mono _ _ _ _)
      | (with_reducible exact LeO.refl _)
      | (with_reducible exact LeO.none _)
      | (with_reducible refine LeO.ite ?_ ?_)
      | (with_reducible refine LeO.bind ?_ (fun _ => ?_))
      | exact ih0 _ _ _ _ _ _ _ _ _ _
      | exact ih1 _ _ _ _ _ _ _
      | exact ih2 _ _ _
      | exact impl_CanPayFrom.mono _ _ _ _
      | exact laws_eqDebtS.mono _ _ _
      | exact laws_eqInt64S.mono _ _ _
      | exact laws_heldInt64S.mono _ _ _
      | exact laws_markDebtS.mono _ _ _
      | exact laws_markInt64S.mono _ _ _
      | exact laws_toDebtS.mono _ _
      | exact laws_toInt64S.mono _ _
      | exact spec_CanPayFrom.mono _ _ _ _
      | exact LeO.none _
      | refine LeO.ite ?_ ?_
      | refine LeO.bind ?_ (fun _ => ?_)
theorem laws_FnExactCanPayFrom.mono : ∀ a0 a1 a2 k, LeO (laws_FnExactCanPayFrom.f k a0 a1 a2) (laws_FnExactCanPayFrom.f (k + 1) a0 a1 a2) := by
  intro a0 a1 a2 k
  obtain ⟨ih0, ih1, ih2⟩ := laws_FnExactCanPayFrom.mono_l k
  unfold laws_FnExactCanPayFrom.f
  repeat' first
      | (with_reducible exact ih0 _ _ _ _ _ _ _ _ _ _)
      | (with_reducible exact ih1 _ _ _ _ _ _ _)
      | (with_reducible exact ih2 _ _ _)
      | (with_reducible exact impl_CanPayFrom.mono _ _ _ _)
      | (with_reducible exact laws_eqDebtS.mono _ _ _)
      | (with_reducible exact laws_eqInt64S.mono _ _ _)
      | (with_reducible exact laws_heldInt64S.mono _ _ _)
      | (with_reducible exact laws_markDebtS.mono _ _ _)
      | (with_reducible exact laws_markInt64S.mono _ _ _)
      | (with_reducible exact laws_toDebtS.mono _ _)
      | (with_reducible exact laws_toInt64S.mono _ _)
      | (with_reducible exact spec_CanPayFrom.mono _ _ _ _)
      | (with_reducible exact LeO.refl _)
      | (with_reducible exact LeO.none _)
      | (with_reducible refine LeO.ite ?_ ?_)
      | (with_reducible refine LeO.bind ?_ (fun _ => ?_))
      | exact ih0 _ _ _ _ _ _ _ _ _ _
      | exact ih1 _ _ _ _ _ _ _
      | exact ih2 _ _ _
      | exact impl_CanPayFrom.mono _ _ _ _
      | exact laws_eqDebtS.mono _ _ _
      | exact laws_eqInt64S.mono _ _ _
      | exact laws_heldInt64S.mono _ _ _
      | exact laws_markDebtS.mono _ _ _
      | exact laws_markInt64S.mono _ _ _
      | exact laws_toDebtS.mono _ _
      | exact laws_toInt64S.mono _ _
      | exact spec_CanPayFrom.mono _ _ _ _
      | exact LeO.none _
      | refine LeO.ite ?_ ?_
      | refine LeO.bind ?_ (fun _ => ?_)
set_option maxHeartbeats 8000000 in
set_option maxRecDepth 100000 in
theorem laws_FnExactCanPayFrom.calls (k : Nat) (a0 : Int) (A1 : Option Addr) (c1 : Nat) (l1 : List (S67)) (A2 : Option Addr) (c2 : Nat) (l2 : List Int) (r : Bool) (w : World) (hr1 : Kd.C k67 w A1 l1.length l1) (hc1 : l1.length ≤ c1) (hr2 : Kd.C (Kd.int .i64) w A2 l2.length l2) (hc2 : l2.length ≤ c2) (h : laws_FnExactCanPayFrom.f k a0 l1 l2 = some r) (ht : r = true) :
    Calls Try.prog 12 #[.int .i64 a0, .slice A1 l1.length c1, .slice A2 l2.length c2] w fun e w' => e = .returned (.bool r) ∧ Below w.heap.size w w' := by
  have HR1 := Aside0.mk hr1
  have HC1 := Aside0.mk hc1
  clear hr1 hc1
  have HR2 := Aside0.mk hr2
  have HC2 := Aside0.mk hc2
  clear hr2 hc2
  have HB := Aside0.mk (Below.refl w.heap.size w)
  have H : (if (l2.length : Int) > 1048576 then (some true) else ((laws_szDebtS.f l1 1048576).bind fun t224 => (if t224 < 0 then (some true) else ((laws_toDebtS.f k l1).bind fun t225 => ((laws_toInt64S.f k l2).bind fun t228 => ((spec_CanPayFrom.f k a0 t225 t228).bind fun bt231 => ((laws_toDebtS.f k l1).bind fun t235 => ((laws_toInt64S.f k l2).bind fun t238 => ((impl_CanPayFrom.f k a0 t235 t238).bind fun bt241 => ((laws_eqInt64S.f k bt241.1 bt231.1).bind fun t245 => (if t245 = true then (laws_FnExactCanPayFrom.j0 k a0 l1 l2 bt231.1 bt231.2 t235 t238 bt241.1 bt241.2 (bt241.2 != bt231.2)) else (laws_FnExactCanPayFrom.j0 k a0 l1 l2 bt231.1 bt231.2 t235 t238 bt241.1 bt241.2 true)))))))))))) = some r := h
  clear h
  by_cases c4 : (l2.length : Int) > 1048576
  · rw [if_pos c4] at H
    have c4b0 : decide (1048576 < (l2.length : Int)) = true := decide_eq_true c4
    have c4b1 : decide (1048576 < l2.length) = true := decide_eq_true (by omega)
    clear c4
    obtain rfl := Option.some.inj H
    go_enter Try.func12, Try.ntmps12
    go_wp2
    go_ret
    exact ⟨by first | rfl | (simp [errW_none, errW_some] <;> rfl) | (simp [*, errW_none, errW_some] <;> rfl), by repeat (first | (with_reducible first | exact HB.out | apply below_alloc | apply pw_below_drewN | apply below_drew1) | exact HB.out)⟩
  · rw [if_neg c4] at H
    have c4b0 : decide (1048576 < (l2.length : Int)) = false := decide_eq_false c4
    have c4b1 : decide (1048576 < l2.length) = false := decide_eq_false (by omega)
    clear c4
    replace H := Option.bind_eq_some_iff.mp H
    obtain ⟨t224, A50, H⟩ := H
    replace H : (if t224 < 0 then (some true) else ((laws_toDebtS.f k l1).bind fun t225 => ((laws_toInt64S.f k l2).bind fun t228 => ((spec_CanPayFrom.f k a0 t225 t228).bind fun bt231 => ((laws_toDebtS.f k l1).bind fun t235 => ((laws_toInt64S.f k l2).bind fun t238 => ((impl_CanPayFrom.f k a0 t235 t238).bind fun bt241 => ((laws_eqInt64S.f k bt241.1 bt231.1).bind fun t245 => (if t245 = true then (laws_FnExactCanPayFrom.j0 k a0 l1 l2 bt231.1 bt231.2 t235 t238 bt241.1 bt241.2 (bt241.2 != bt231.2)) else (laws_FnExactCanPayFrom.j0 k a0 l1 l2 bt231.1 bt231.2 t235 t238 bt241.1 bt241.2 true)))))))))) = some r := H
    have A5 := Aside0.mk A50
    clear A50
    by_cases c6 : t224 < 0
    · rw [if_pos c6] at H
      have c6b0 : decide (t224 < 0) = true := decide_eq_true c6
      clear c6
      obtain rfl := Option.some.inj H
      go_enter Try.func12, Try.ntmps12
      go_wp2_with (first | ((with_reducible refine gate_callee (f := 15) rfl ?_); refine goesL_ (some 24) rfl rfl Try.func15 (by kernel_rfl) rfl #[.slice A1 l1.length c1, .int .i64 1048576] rfl (by (try simp only [List.map_toArray, List.map_cons, List.map_nil]); first | done | (go_simp; done) | rfl | (simp only [List.length_drop, List.length_take]; rfl)) ?_; (with_reducible refine (laws_szDebtS.calls _ _ l1 1048576 t224 _ ?side1 ?side2 A5.out).mono ?_); (case side1 => repeat (first | exact HR1.out | (with_reducible refine Kd.C_alloc ?_ _) | (with_reducible refine Kd.C_drewN ?_ _) | (with_reducible refine Kd.C_drew ?_))); (case side2 => exact HC1.out); rintro e w' ⟨rfl, ⟨nd, rfl⟩⟩; refine ⟨_, rfl, ?_⟩))
      go_ret
      exact ⟨by first | rfl | (simp [errW_none, errW_some] <;> rfl) | (simp [*, errW_none, errW_some] <;> rfl), by repeat (first | (with_reducible first | exact HB.out | apply below_alloc | apply pw_below_drewN | apply below_drew1) | exact HB.out)⟩
    · rw [if_neg c6] at H
      have c6b0 : decide (t224 < 0) = false := decide_eq_false c6
      clear c6
      replace H := Option.bind_eq_some_iff.mp H
      obtain ⟨t225, A70, H⟩ := H
      replace H : ((laws_toInt64S.f k l2).bind fun t228 => ((spec_CanPayFrom.f k a0 t225 t228).bind fun bt231 => ((laws_toDebtS.f k l1).bind fun t235 => ((laws_toInt64S.f k l2).bind fun t238 => ((impl_CanPayFrom.f k a0 t235 t238).bind fun bt241 => ((laws_eqInt64S.f k bt241.1 bt231.1).bind fun t245 => (if t245 = true then (laws_FnExactCanPayFrom.j0 k a0 l1 l2 bt231.1 bt231.2 t235 t238 bt241.1 bt241.2 (bt241.2 != bt231.2)) else (laws_FnExactCanPayFrom.j0 k a0 l1 l2 bt231.1 bt231.2 t235 t238 bt241.1 bt241.2 true)))))))) = some r := H
      have A7 := Aside0.mk A70
      clear A70
      replace H := Option.bind_eq_some_iff.mp H
      obtain ⟨t228, A80, H⟩ := H
      replace H : ((spec_CanPayFrom.f k a0 t225 t228).bind fun bt231 => ((laws_toDebtS.f k l1).bind fun t235 => ((laws_toInt64S.f k l2).bind fun t238 => ((impl_CanPayFrom.f k a0 t235 t238).bind fun bt241 => ((laws_eqInt64S.f k bt241.1 bt231.1).bind fun t245 => (if t245 = true then (laws_FnExactCanPayFrom.j0 k a0 l1 l2 bt231.1 bt231.2 t235 t238 bt241.1 bt241.2 (bt241.2 != bt231.2)) else (laws_FnExactCanPayFrom.j0 k a0 l1 l2 bt231.1 bt231.2 t235 t238 bt241.1 bt241.2 true))))))) = some r := H
      have A8 := Aside0.mk A80
      clear A80
      replace H := Option.bind_eq_some_iff.mp H
      obtain ⟨⟨t231, t232⟩, A90, H⟩ := H
      replace H : ((laws_toDebtS.f k l1).bind fun t235 => ((laws_toInt64S.f k l2).bind fun t238 => ((impl_CanPayFrom.f k a0 t235 t238).bind fun bt241 => ((laws_eqInt64S.f k bt241.1 t231).bind fun t245 => (if t245 = true then (laws_FnExactCanPayFrom.j0 k a0 l1 l2 t231 t232 t235 t238 bt241.1 bt241.2 (bt241.2 != t232)) else (laws_FnExactCanPayFrom.j0 k a0 l1 l2 t231 t232 t235 t238 bt241.1 bt241.2 true)))))) = some r := H
      have A9 := Aside0.mk A90
      clear A90
      replace H := Option.bind_eq_some_iff.mp H
      obtain ⟨t235, A100, H⟩ := H
      replace H : ((laws_toInt64S.f k l2).bind fun t238 => ((impl_CanPayFrom.f k a0 t235 t238).bind fun bt241 => ((laws_eqInt64S.f k bt241.1 t231).bind fun t245 => (if t245 = true then (laws_FnExactCanPayFrom.j0 k a0 l1 l2 t231 t232 t235 t238 bt241.1 bt241.2 (bt241.2 != t232)) else (laws_FnExactCanPayFrom.j0 k a0 l1 l2 t231 t232 t235 t238 bt241.1 bt241.2 true))))) = some r := H
      have A10 := Aside0.mk A100
      clear A100
      replace H := Option.bind_eq_some_iff.mp H
      obtain ⟨t238, A110, H⟩ := H
      replace H : ((impl_CanPayFrom.f k a0 t235 t238).bind fun bt241 => ((laws_eqInt64S.f k bt241.1 t231).bind fun t245 => (if t245 = true then (laws_FnExactCanPayFrom.j0 k a0 l1 l2 t231 t232 t235 t238 bt241.1 bt241.2 (bt241.2 != t232)) else (laws_FnExactCanPayFrom.j0 k a0 l1 l2 t231 t232 t235 t238 bt241.1 bt241.2 true)))) = some r := H
      have A11 := Aside0.mk A110
      clear A110
      replace H := Option.bind_eq_some_iff.mp H
      obtain ⟨⟨t241, t242⟩, A120, H⟩ := H
      replace H : ((laws_eqInt64S.f k t241 t231).bind fun t245 => (if t245 = true then (laws_FnExactCanPayFrom.j0 k a0 l1 l2 t231 t232 t235 t238 t241 t242 (t242 != t232)) else (laws_FnExactCanPayFrom.j0 k a0 l1 l2 t231 t232 t235 t238 t241 t242 true))) = some r := H
      have A12 := Aside0.mk A120
      clear A120
      have HC13 := Aside0.mk H
      clear H
      go_enter Try.func12, Try.ntmps12
      go_upto_region 11 with (first | ((with_reducible refine gate_callee (f := 15) rfl ?_); refine goesL_ (some 24) rfl rfl Try.func15 (by kernel_rfl) rfl #[.slice A1 l1.length c1, .int .i64 1048576] rfl (by (try simp only [List.map_toArray, List.map_cons, List.map_nil]); first | done | (go_simp; done) | rfl | (simp only [List.length_drop, List.length_take]; rfl)) ?_; (with_reducible refine (laws_szDebtS.calls _ _ l1 1048576 t224 _ ?side1 ?side2 A5.out).mono ?_); (case side1 => repeat (first | exact HR1.out | (with_reducible refine Kd.C_alloc ?_ _) | (with_reducible refine Kd.C_drewN ?_ _) | (with_reducible refine Kd.C_drew ?_))); (case side2 => exact HC1.out); rintro e w' ⟨rfl, ⟨nd, rfl⟩⟩; refine ⟨_, rfl, ?_⟩) | ((with_reducible refine gate_callee (f := 17) rfl ?_); refine goesL_ (some 30) rfl rfl Try.func17 (by kernel_rfl) rfl #[.slice A1 l1.length c1] rfl (by (try simp only [List.map_toArray, List.map_cons, List.map_nil]); first | done | (go_simp; done) | rfl | (simp only [List.length_drop, List.length_take]; rfl)) ?_; (with_reducible refine (laws_toDebtS.calls k _ _ l1 t225 _ ?side1 ?side2 A7.out).mono ?_); (case side1 => repeat (first | exact HR1.out | (with_reducible refine Kd.C_alloc ?_ _) | (with_reducible refine Kd.C_drewN ?_ _) | (with_reducible refine Kd.C_drew ?_))); (case side2 => exact HC1.out); rintro e w14 ⟨v226, rfl, ho0, hb⟩; refine ⟨_, rfl, ?_⟩; have n0_ := Aside0.mk (Kd.R_lower ho0 (below_size (by repeat (first | (with_reducible first | exact HB.out | apply below_alloc | apply pw_below_drewN | apply below_drew1) | exact HB.out)))); have n1_ := Aside0.mk (below_step (by repeat (first | (with_reducible first | exact HB.out | apply below_alloc | apply pw_below_drewN | apply below_drew1) | exact HB.out)) hb); clear HB; have HO227 := n0_; have HB := n1_; clear n0_ n1_; (try clear hb); (try clear hb2); (try clear hk); (try clear hi); (try clear ho0)) | ((with_reducible refine gate_callee (f := 32) rfl ?_); refine goesL_ (some 32) rfl rfl Try.func32 (by kernel_rfl) rfl #[.slice A2 l2.length c2] rfl (by (try simp only [List.map_toArray, List.map_cons, List.map_nil]); first | done | (go_simp; done) | rfl | (simp only [List.length_drop, List.length_take]; rfl)) ?_; (with_reducible refine (laws_toInt64S.calls k _ _ l2 t228 _ ?side1 ?side2 A8.out).mono ?_); (case side1 => repeat (first | exact (Kd.C_below HR2.out HB.out) | (with_reducible refine Kd.C_alloc ?_ _) | (with_reducible refine Kd.C_drewN ?_ _) | (with_reducible refine Kd.C_drew ?_))); (case side2 => exact HC2.out); rintro e w15 ⟨v229, rfl, ho0, hb⟩; refine ⟨_, rfl, ?_⟩; have n0_ := Aside0.mk (Kd.R_below (by (with_reducible repeat (first | apply Kd.R_alloc | apply Kd.R_drewN | apply Kd.R_drew)); exact HO227.out) hb); have n1_ := Aside0.mk (Kd.R_lower ho0 (below_size (by repeat (first | (with_reducible first | exact HB.out | apply below_alloc | apply pw_below_drewN | apply below_drew1) | exact HB.out)))); have n2_ := Aside0.mk (below_step (by repeat (first | (with_reducible first | exact HB.out | apply below_alloc | apply pw_below_drewN | apply below_drew1) | exact HB.out)) hb); clear HO227; clear HB; have HO227 := n0_; have HO230 := n1_; have HB := n2_; clear n0_ n1_ n2_; (try clear hb); (try clear hb2); (try clear hk); (try clear hi); (try clear ho0); obtain ⟨Ao16, co16, eo16⟩ := Kd.R_slice HO227.out; subst eo16; obtain ⟨Ao17, co17, eo17⟩ := Kd.R_slice HO230.out; subst eo17) | ((with_reducible refine gate_callee (f := 42) rfl ?_); refine goesL_ (some 33) rfl rfl Try.func42 (by kernel_rfl) rfl #[.int .i64 a0, .slice Ao16 t225.length co16, .slice Ao17 t228.length co17] rfl (by (try simp only [List.map_toArray, List.map_cons, List.map_nil]); first | done | (go_simp; done) | rfl | (simp only [List.length_drop, List.length_take]; rfl)) ?_; (with_reducible refine (spec_CanPayFrom.calls k a0 _ _ t225 _ _ t228 t231 t232 _ ?side1 ?side2 ?side3 ?side4 A9.out).mono ?_); (case side1 => repeat (first | exact (Kd.R_reads' HO227.out).2.2 | (with_reducible refine Kd.C_alloc ?_ _) | (with_reducible refine Kd.C_drewN ?_ _) | (with_reducible refine Kd.C_drew ?_))); (case side2 => exact (Kd.R_reads' HO227.out).2.1); (case side3 => repeat (first | exact (Kd.R_reads' HO230.out).2.2 | (with_reducible refine Kd.C_alloc ?_ _) | (with_reducible refine Kd.C_drewN ?_ _) | (with_reducible refine Kd.C_drew ?_))); (case side4 => exact (Kd.R_reads' HO230.out).2.1); rintro e w18 ⟨v233, rfl, ho0, hb⟩; refine ⟨_, rfl, ?_⟩; have n0_ := Aside0.mk (Kd.R_below (by (with_reducible repeat (first | apply Kd.R_alloc | apply Kd.R_drewN | apply Kd.R_drew)); exact HO227.out) hb); have n1_ := Aside0.mk (Kd.R_elder' (by (with_reducible repeat (first | apply Kd.R_alloc | apply Kd.R_drewN | apply Kd.R_drew)); exact HO230.out) (Kd.R_base ho0) hb); have n2_ := Aside0.mk (Kd.R_lower (Kd.R_new' ho0 (Kd.R_lt (by (with_reducible repeat (first | apply Kd.R_alloc | apply Kd.R_drewN | apply Kd.R_drew)); exact HO230.out))) (below_size (by repeat (first | (with_reducible first | exact HB.out | apply below_alloc | apply pw_below_drewN | apply below_drew1) | exact HB.out)))); have n3_ := Aside0.mk (below_step (by repeat (first | (with_reducible first | exact HB.out | apply below_alloc | apply pw_below_drewN | apply below_drew1) | exact HB.out)) hb); clear HO227; clear HO230; clear HB; have HO227 := n0_; have HO230 := n1_; have HO234 := n2_; have HB := n3_; clear n0_ n1_ n2_ n3_; (try clear hb); (try clear hb2); (try clear hk); (try clear hi); (try clear ho0)) | ((with_reducible refine gate_callee (f := 17) rfl ?_); refine goesL_ (some 37) rfl rfl Try.func17 (by kernel_rfl) rfl #[.slice A1 l1.length c1] rfl (by (try simp only [List.map_toArray, List.map_cons, List.map_nil]); first | done | (go_simp; done) | rfl | (simp only [List.length_drop, List.length_take]; rfl)) ?_; (with_reducible refine (laws_toDebtS.calls k _ _ l1 t235 _ ?side1 ?side2 A10.out).mono ?_); (case side1 => repeat (first | exact (Kd.C_below HR1.out HB.out) | (with_reducible refine Kd.C_alloc ?_ _) | (with_reducible refine Kd.C_drewN ?_ _) | (with_reducible refine Kd.C_drew ?_))); (case side2 => exact HC1.out); rintro e w19 ⟨v236, rfl, ho0, hb⟩; refine ⟨_, rfl, ?_⟩; have n0_ := Aside0.mk (Kd.R_elder' (by (with_reducible repeat (first | apply Kd.R_alloc | apply Kd.R_drewN | apply Kd.R_drew)); exact HO227.out) (Kd.R_base ho0) hb); have n1_ := Aside0.mk (Kd.R_below (by (with_reducible repeat (first | apply Kd.R_alloc | apply Kd.R_drewN | apply Kd.R_drew)); exact HO230.out) hb); have n2_ := Aside0.mk (Kd.R_below (by (with_reducible repeat (first | apply Kd.R_alloc | apply Kd.R_drewN | apply Kd.R_drew)); exact HO234.out) hb); have n3_ := Aside0.mk (Kd.R_lower (Kd.R_new' ho0 (Kd.R_lt (by (with_reducible repeat (first | apply Kd.R_alloc | apply Kd.R_drewN | apply Kd.R_drew)); exact HO227.out))) (below_size (by repeat (first | (with_reducible first | exact HB.out | apply below_alloc | apply pw_below_drewN | apply below_drew1) | exact HB.out)))); have n4_ := Aside0.mk (below_step (by repeat (first | (with_reducible first | exact HB.out | apply below_alloc | apply pw_below_drewN | apply below_drew1) | exact HB.out)) hb); clear HO227; clear HO230; clear HO234; clear HB; have HO227 := n0_; have HO230 := n1_; have HO234 := n2_; have HO237 := n3_; have HB := n4_; clear n0_ n1_ n2_ n3_ n4_; (try clear hb); (try clear hb2); (try clear hk); (try clear hi); (try clear ho0)) | ((with_reducible refine gate_callee (f := 32) rfl ?_); refine goesL_ (some 39) rfl rfl Try.func32 (by kernel_rfl) rfl #[.slice A2 l2.length c2] rfl (by (try simp only [List.map_toArray, List.map_cons, List.map_nil]); first | done | (go_simp; done) | rfl | (simp only [List.length_drop, List.length_take]; rfl)) ?_; (with_reducible refine (laws_toInt64S.calls k _ _ l2 t238 _ ?side1 ?side2 A11.out).mono ?_); (case side1 => repeat (first | exact (Kd.C_below HR2.out HB.out) | (with_reducible refine Kd.C_alloc ?_ _) | (with_reducible refine Kd.C_drewN ?_ _) | (with_reducible refine Kd.C_drew ?_))); (case side2 => exact HC2.out); rintro e w20 ⟨v239, rfl, ho0, hb⟩; refine ⟨_, rfl, ?_⟩; have n0_ := Aside0.mk (Kd.R_below (by (with_reducible repeat (first | apply Kd.R_alloc | apply Kd.R_drewN | apply Kd.R_drew)); exact HO227.out) hb); have n1_ := Aside0.mk (Kd.R_elder' (by (with_reducible repeat (first | apply Kd.R_alloc | apply Kd.R_drewN | apply Kd.R_drew)); exact HO230.out) (Kd.R_base ho0) hb); have n2_ := Aside0.mk (Kd.R_elder' (by (with_reducible repeat (first | apply Kd.R_alloc | apply Kd.R_drewN | apply Kd.R_drew)); exact HO234.out) (Kd.R_base ho0) hb); have n3_ := Aside0.mk (Kd.R_below (by (with_reducible repeat (first | apply Kd.R_alloc | apply Kd.R_drewN | apply Kd.R_drew)); exact HO237.out) hb); have n4_ := Aside0.mk (Kd.R_lower (Kd.R_new' (Kd.R_new' ho0 (Kd.R_lt (by (with_reducible repeat (first | apply Kd.R_alloc | apply Kd.R_drewN | apply Kd.R_drew)); exact HO230.out))) (Kd.R_lt (by (with_reducible repeat (first | apply Kd.R_alloc | apply Kd.R_drewN | apply Kd.R_drew)); exact HO234.out))) (below_size (by repeat (first | (with_reducible first | exact HB.out | apply below_alloc | apply pw_below_drewN | apply below_drew1) | exact HB.out)))); have n5_ := Aside0.mk (below_step (by repeat (first | (with_reducible first | exact HB.out | apply below_alloc | apply pw_below_drewN | apply below_drew1) | exact HB.out)) hb); clear HO227; clear HO230; clear HO234; clear HO237; clear HB; have HO227 := n0_; have HO230 := n1_; have HO234 := n2_; have HO237 := n3_; have HO240 := n4_; have HB := n5_; clear n0_ n1_ n2_ n3_ n4_ n5_; (try clear hb); (try clear hb2); (try clear hk); (try clear hi); (try clear ho0); obtain ⟨Ao21, co21, eo21⟩ := Kd.R_slice HO237.out; subst eo21; obtain ⟨Ao22, co22, eo22⟩ := Kd.R_slice HO240.out; subst eo22) | ((with_reducible refine gate_callee (f := 43) rfl ?_); refine goesL_ (some 44) rfl rfl Try.func43 (by kernel_rfl) rfl #[.int .i64 a0, .slice Ao21 t235.length co21, .slice Ao22 t238.length co22] rfl (by (try simp only [List.map_toArray, List.map_cons, List.map_nil]); first | done | (go_simp; done) | rfl | (simp only [List.length_drop, List.length_take]; rfl)) ?_; (with_reducible refine (impl_CanPayFrom.calls k a0 _ _ t235 _ _ t238 t241 t242 _ ?side1 ?side2 ?side3 ?side4 A12.out).mono ?_); (case side1 => repeat (first | exact (Kd.R_reads' HO237.out).2.2 | (with_reducible refine Kd.C_alloc ?_ _) | (with_reducible refine Kd.C_drewN ?_ _) | (with_reducible refine Kd.C_drew ?_))); (case side2 => exact (Kd.R_reads' HO237.out).2.1); (case side3 => repeat (first | exact (Kd.R_reads' HO240.out).2.2 | (with_reducible refine Kd.C_alloc ?_ _) | (with_reducible refine Kd.C_drewN ?_ _) | (with_reducible refine Kd.C_drew ?_))); (case side4 => exact (Kd.R_reads' HO240.out).2.1); rintro e w23 ⟨v243, rfl, ho0, hb⟩; refine ⟨_, rfl, ?_⟩; have n0_ := Aside0.mk (Kd.R_below (by (with_reducible repeat (first | apply Kd.R_alloc | apply Kd.R_drewN | apply Kd.R_drew)); exact HO227.out) hb); have n1_ := Aside0.mk (Kd.R_elder' (by (with_reducible repeat (first | apply Kd.R_alloc | apply Kd.R_drewN | apply Kd.R_drew)); exact HO230.out) (Kd.R_base ho0) hb); have n2_ := Aside0.mk (Kd.R_elder' (by (with_reducible repeat (first | apply Kd.R_alloc | apply Kd.R_drewN | apply Kd.R_drew)); exact HO234.out) (Kd.R_base ho0) hb); have n3_ := Aside0.mk (Kd.R_below (by (with_reducible repeat (first | apply Kd.R_alloc | apply Kd.R_drewN | apply Kd.R_drew)); exact HO237.out) hb); have n4_ := Aside0.mk (Kd.R_elder' (by (with_reducible repeat (first | apply Kd.R_alloc | apply Kd.R_drewN | apply Kd.R_drew)); exact HO240.out) (Kd.R_base ho0) hb); have n5_ := Aside0.mk (Kd.R_lower (Kd.R_new' (Kd.R_new' (Kd.R_new' ho0 (Kd.R_lt (by (with_reducible repeat (first | apply Kd.R_alloc | apply Kd.R_drewN | apply Kd.R_drew)); exact HO230.out))) (Kd.R_lt (by (with_reducible repeat (first | apply Kd.R_alloc | apply Kd.R_drewN | apply Kd.R_drew)); exact HO234.out))) (Kd.R_lt (by (with_reducible repeat (first | apply Kd.R_alloc | apply Kd.R_drewN | apply Kd.R_drew)); exact HO240.out))) (below_size (by repeat (first | (with_reducible first | exact HB.out | apply below_alloc | apply pw_below_drewN | apply below_drew1) | exact HB.out)))); have n6_ := Aside0.mk (below_step (by repeat (first | (with_reducible first | exact HB.out | apply below_alloc | apply pw_below_drewN | apply below_drew1) | exact HB.out)) hb); clear HO227; clear HO230; clear HO234; clear HO237; clear HO240; clear HB; have HO227 := n0_; have HO230 := n1_; have HO234 := n2_; have HO237 := n3_; have HO240 := n4_; have HO244 := n5_; have HB := n6_; clear n0_ n1_ n2_ n3_ n4_ n5_ n6_; (try clear hb); (try clear hb2); (try clear hk); (try clear hi); (try clear ho0)))
      (try simp only [Act.put, List.setIfInBounds_toArray, List.set_cons_zero, List.set_cons_succ])
      go_cut [55] (fun v55 wc => ∃ (kq : Nat) (x55_12 : Bool), v55 = .bool x55_12 ∧ Aside0 (laws_FnExactCanPayFrom.j0 kq a0 l1 l2 t231 t232 t235 t238 t241 t242 x55_12 = some r) ∧ Aside0 (kq ≤ k) ∧ Aside0 (Kd.R (Kd.int .i64) 2 wc w.heap.size (fun k_ => some k_ ≠ ((.slice Ao22 t238.length co22) : Value).ownBlock ∧ some k_ ≠ (v243 : Value).ownBlock) v233 t231) ∧ Aside0 (Kd.R k65 65 wc w.heap.size (fun _ => True) (.slice Ao21 t235.length co21) t235) ∧ Aside0 (Kd.R (Kd.int .i64) 2 wc w.heap.size (fun k_ => some k_ ≠ (v233 : Value).ownBlock ∧ some k_ ≠ (v243 : Value).ownBlock) (.slice Ao22 t238.length co22) t238) ∧ Aside0 (Kd.R (Kd.int .i64) 2 wc w.heap.size (fun k_ => some k_ ≠ (v233 : Value).ownBlock ∧ some k_ ≠ ((.slice Ao22 t238.length co22) : Value).ownBlock) v243 t241) ∧ Aside0 (Below w.heap.size w wc))
      case first =>
        have H := HC13.out
        clear HC13
        replace H := Option.bind_eq_some_iff.mp H
        obtain ⟨t245, A240, H⟩ := H
        replace H : (if t245 = true then (laws_FnExactCanPayFrom.j0 k a0 l1 l2 t231 t232 t235 t238 t241 t242 (t242 != t232)) else (laws_FnExactCanPayFrom.j0 k a0 l1 l2 t231 t232 t235 t238 t241 t242 true)) = some r := H
        have A24 := Aside0.mk A240
        clear A240
        by_cases c25 : t245 = true
        · subst c25
          have H1 : (laws_FnExactCanPayFrom.j0 k a0 l1 l2 t231 t232 t235 t238 t241 t242 (t242 != t232)) = some r := by rw [if_pos rfl] at H; exact H
          clear H
          have H := H1
          clear H1
          have H' := Aside0.mk H
          clear H
          obtain ⟨Ao26, co26, eo26⟩ := Kd.R_slice HO244.out
          subst eo26
          obtain ⟨Ao27, co27, eo27⟩ := Kd.R_slice HO234.out
          subst eo27
          go_wp2_with (first | ((with_reducible refine gate_callee (f := 28) rfl ?_); refine goesL_ (some 49) rfl rfl Try.func28 (by kernel_rfl) rfl #[.slice Ao26 t241.length co26, .slice Ao27 t231.length co27] rfl (by (try simp only [List.map_toArray, List.map_cons, List.map_nil]); first | done | (go_simp; done) | rfl | (simp only [List.length_drop, List.length_take]; rfl)) ?_; (with_reducible refine (laws_eqInt64S.calls k _ _ t241 _ _ t231 true _ ?side1 ?side2 ?side3 ?side4 A24.out).mono ?_); (case side1 => repeat (first | exact (Kd.R_reads' HO244.out).2.2 | (with_reducible refine Kd.C_alloc ?_ _) | (with_reducible refine Kd.C_drewN ?_ _) | (with_reducible refine Kd.C_drew ?_))); (case side2 => exact (Kd.R_reads' HO244.out).2.1); (case side3 => repeat (first | exact (Kd.R_reads' HO234.out).2.2 | (with_reducible refine Kd.C_alloc ?_ _) | (with_reducible refine Kd.C_drewN ?_ _) | (with_reducible refine Kd.C_drew ?_))); (case side4 => exact (Kd.R_reads' HO234.out).2.1); rintro e w' ⟨rfl, ⟨nd, rfl⟩⟩; refine ⟨_, rfl, ?_⟩))
          go_meet
          case rel => exact ⟨_, ((t242 != t232)), (by first | rfl | (simp; done) | (simp [*]; done)), H', ⟨by first | omega | exact Nat.le_refl _⟩, ⟨by (with_reducible repeat (first | apply Kd.R_alloc | apply Kd.R_drewN | apply Kd.R_drew)); exact Kd.R_mono HO234.out (fun _ hk => ⟨hk.1.2, hk.2⟩)⟩, ⟨by (with_reducible repeat (first | apply Kd.R_alloc | apply Kd.R_drewN | apply Kd.R_drew)); exact Kd.R_mono HO237.out (fun _ hk => trivial)⟩, ⟨by (with_reducible repeat (first | apply Kd.R_alloc | apply Kd.R_drewN | apply Kd.R_drew)); exact Kd.R_mono HO240.out (fun _ hk => ⟨hk.1.2, hk.2⟩)⟩, ⟨by (with_reducible repeat (first | apply Kd.R_alloc | apply Kd.R_drewN | apply Kd.R_drew)); exact Kd.R_mono HO244.out (fun _ hk => ⟨hk.1.2, hk.2⟩)⟩, ⟨by repeat (first | (with_reducible first | exact HB.out | apply below_alloc | apply pw_below_drewN | apply below_drew1) | exact HB.out)⟩⟩
        · replace c25 := Bool.eq_false_iff.mpr c25
          subst c25
          have H1 : (laws_FnExactCanPayFrom.j0 k a0 l1 l2 t231 t232 t235 t238 t241 t242 true) = some r := by rw [if_neg (show ¬ (false = true) by decide)] at H; exact H
          clear H
          have H := H1
          clear H1
          have H' := Aside0.mk H
          clear H
          obtain ⟨Ao28, co28, eo28⟩ := Kd.R_slice HO244.out
          subst eo28
          obtain ⟨Ao29, co29, eo29⟩ := Kd.R_slice HO234.out
          subst eo29
          go_wp2_with (first | ((with_reducible refine gate_callee (f := 28) rfl ?_); refine goesL_ (some 49) rfl rfl Try.func28 (by kernel_rfl) rfl #[.slice Ao28 t241.length co28, .slice Ao29 t231.length co29] rfl (by (try simp only [List.map_toArray, List.map_cons, List.map_nil]); first | done | (go_simp; done) | rfl | (simp only [List.length_drop, List.length_take]; rfl)) ?_; (with_reducible refine (laws_eqInt64S.calls k _ _ t241 _ _ t231 false _ ?side1 ?side2 ?side3 ?side4 A24.out).mono ?_); (case side1 => repeat (first | exact (Kd.R_reads' HO244.out).2.2 | (with_reducible refine Kd.C_alloc ?_ _) | (with_reducible refine Kd.C_drewN ?_ _) | (with_reducible refine Kd.C_drew ?_))); (case side2 => exact (Kd.R_reads' HO244.out).2.1); (case side3 => repeat (first | exact (Kd.R_reads' HO234.out).2.2 | (with_reducible refine Kd.C_alloc ?_ _) | (with_reducible refine Kd.C_drewN ?_ _) | (with_reducible refine Kd.C_drew ?_))); (case side4 => exact (Kd.R_reads' HO234.out).2.1); rintro e w' ⟨rfl, ⟨nd, rfl⟩⟩; refine ⟨_, rfl, ?_⟩))
          go_meet
          case rel => exact ⟨_, (true), (by first | rfl | (simp; done) | (simp [*]; done)), H', ⟨by first | omega | exact Nat.le_refl _⟩, ⟨by (with_reducible repeat (first | apply Kd.R_alloc | apply Kd.R_drewN | apply Kd.R_drew)); exact Kd.R_mono HO234.out (fun _ hk => ⟨hk.1.2, hk.2⟩)⟩, ⟨by (with_reducible repeat (first | apply Kd.R_alloc | apply Kd.R_drewN | apply Kd.R_drew)); exact Kd.R_mono HO237.out (fun _ hk => trivial)⟩, ⟨by (with_reducible repeat (first | apply Kd.R_alloc | apply Kd.R_drewN | apply Kd.R_drew)); exact Kd.R_mono HO240.out (fun _ hk => ⟨hk.1.2, hk.2⟩)⟩, ⟨by (with_reducible repeat (first | apply Kd.R_alloc | apply Kd.R_drewN | apply Kd.R_drew)); exact Kd.R_mono HO244.out (fun _ hk => ⟨hk.1.2, hk.2⟩)⟩, ⟨by repeat (first | (with_reducible first | exact HB.out | apply below_alloc | apply pw_below_drewN | apply below_drew1) | exact HB.out)⟩⟩
      case rest =>
        clear HC13
        try clear c1
        try clear c2
        try clear p2
        try clear c3
        try clear c4
        try clear c4b0
        try clear c4b1
        try clear c6
        try clear c6b0
        try clear c12
        try clear c15
        try clear c17
        try clear c25
        try clear c28
        obtain ⟨kq, x55_12, rfl, HA, HJ12, HO_8, HO_10, HO_11, HO_12, HB⟩ := hcut
        cases kq with
        | zero => exact absurd HA.out (by simp [laws_FnExactCanPayFrom.j0])
        | succ kj12 =>
          have H := HA.out
          clear HA
          simp only [laws_FnExactCanPayFrom.j0] at H
          by_cases c30 : x55_12 = true
          · subst c30
            have H1 : (some false) = some r := by rw [if_pos rfl] at H; exact H
            clear H
            have H := H1
            clear H1
            obtain rfl := Option.some.inj H
            cases ht
          · replace c30 := Bool.eq_false_iff.mpr c30
            subst c30
            have H1 : ((laws_toDebtS.f kj12 l1).bind fun t246 => ((laws_eqDebtS.f kj12 t235 t246).bind fun t249 => (if t249 = true then ((laws_toInt64S.f kj12 l2).bind fun t250 => ((laws_eqInt64S.f kj12 t238 t250).bind fun t253 => (if t253 = true then ((laws_markDebtS.f kj12 t235 1).bind fun bt254 => ((laws_markInt64S.f kj12 t238 bt254.1).bind fun bt256 => (if bt256.1 < 0 then (laws_FnExactCanPayFrom.j1 kj12 a0 l1 l2 t231 t232 t241 true) else ((laws_eqInt64S.f kj12 t241 t231).bind fun t258 => (if t258 = true then (laws_FnExactCanPayFrom.j1 kj12 a0 l1 l2 t231 t232 t241 (t242 != t232)) else (laws_FnExactCanPayFrom.j1 kj12 a0 l1 l2 t231 t232 t241 true)))))) else (some false)))) else (some false)))) = some r := by rw [if_neg (show ¬ (false = true) by decide)] at H; exact H
            clear H
            have H := H1
            clear H1
            replace H := Option.bind_eq_some_iff.mp H
            obtain ⟨t246, A310, H⟩ := H
            replace H : ((laws_eqDebtS.f kj12 t235 t246).bind fun t249 => (if t249 = true then ((laws_toInt64S.f kj12 l2).bind fun t250 => ((laws_eqInt64S.f kj12 t238 t250).bind fun t253 => (if t253 = true then ((laws_markDebtS.f kj12 t235 1).bind fun bt254 => ((laws_markInt64S.f kj12 t238 bt254.1).bind fun bt256 => (if bt256.1 < 0 then (laws_FnExactCanPayFrom.j1 kj12 a0 l1 l2 t231 t232 t241 true) else ((laws_eqInt64S.f kj12 t241 t231).bind fun t258 => (if t258 = true then (laws_FnExactCanPayFrom.j1 kj12 a0 l1 l2 t231 t232 t241 (t242 != t232)) else (laws_FnExactCanPayFrom.j1 kj12 a0 l1 l2 t231 t232 t241 true)))))) else (some false)))) else (some false))) = some r := H
            have A31 := Aside0.mk A310
            clear A310
            replace H := Option.bind_eq_some_iff.mp H
            obtain ⟨t249, A320, H⟩ := H
            replace H : (if t249 = true then ((laws_toInt64S.f kj12 l2).bind fun t250 => ((laws_eqInt64S.f kj12 t238 t250).bind fun t253 => (if t253 = true then ((laws_markDebtS.f kj12 t235 1).bind fun bt254 => ((laws_markInt64S.f kj12 t238 bt254.1).bind fun bt256 => (if bt256.1 < 0 then (laws_FnExactCanPayFrom.j1 kj12 a0 l1 l2 t231 t232 t241 true) else ((laws_eqInt64S.f kj12 t241 t231).bind fun t258 => (if t258 = true then (laws_FnExactCanPayFrom.j1 kj12 a0 l1 l2 t231 t232 t241 (t242 != t232)) else (laws_FnExactCanPayFrom.j1 kj12 a0 l1 l2 t231 t232 t241 true)))))) else (some false)))) else (some false)) = some r := H
            have A32 := Aside0.mk A320
            clear A320
            by_cases c33 : t249 = true
            · subst c33
              have H1 : ((laws_toInt64S.f kj12 l2).bind fun t250 => ((laws_eqInt64S.f kj12 t238 t250).bind fun t253 => (if t253 = true then ((laws_markDebtS.f kj12 t235 1).bind fun bt254 => ((laws_markInt64S.f kj12 t238 bt254.1).bind fun bt256 => (if bt256.1 < 0 then (laws_FnExactCanPayFrom.j1 kj12 a0 l1 l2 t231 t232 t241 true) else ((laws_eqInt64S.f kj12 t241 t231).bind fun t258 => (if t258 = true then (laws_FnExactCanPayFrom.j1 kj12 a0 l1 l2 t231 t232 t241 (t242 != t232)) else (laws_FnExactCanPayFrom.j1 kj12 a0 l1 l2 t231 t232 t241 true)))))) else (some false)))) = some r := by rw [if_pos rfl] at H; exact H
              clear H
              have H := H1
              clear H1
              replace H := Option.bind_eq_some_iff.mp H
              obtain ⟨t250, A340, H⟩ := H
              replace H : ((laws_eqInt64S.f kj12 t238 t250).bind fun t253 => (if t253 = true then ((laws_markDebtS.f kj12 t235 1).bind fun bt254 => ((laws_markInt64S.f kj12 t238 bt254.1).bind fun bt256 => (if bt256.1 < 0 then (laws_FnExactCanPayFrom.j1 kj12 a0 l1 l2 t231 t232 t241 true) else ((laws_eqInt64S.f kj12 t241 t231).bind fun t258 => (if t258 = true then (laws_FnExactCanPayFrom.j1 kj12 a0 l1 l2 t231 t232 t241 (t242 != t232)) else (laws_FnExactCanPayFrom.j1 kj12 a0 l1 l2 t231 t232 t241 true)))))) else (some false))) = some r := H
              have A34 := Aside0.mk A340
              clear A340
              replace H := Option.bind_eq_some_iff.mp H
              obtain ⟨t253, A350, H⟩ := H
              replace H : (if t253 = true then ((laws_markDebtS.f kj12 t235 1).bind fun bt254 => ((laws_markInt64S.f kj12 t238 bt254.1).bind fun bt256 => (if bt256.1 < 0 then (laws_FnExactCanPayFrom.j1 kj12 a0 l1 l2 t231 t232 t241 true) else ((laws_eqInt64S.f kj12 t241 t231).bind fun t258 => (if t258 = true then (laws_FnExactCanPayFrom.j1 kj12 a0 l1 l2 t231 t232 t241 (t242 != t232)) else (laws_FnExactCanPayFrom.j1 kj12 a0 l1 l2 t231 t232 t241 true)))))) else (some false)) = some r := H
              have A35 := Aside0.mk A350
              clear A350
              by_cases c36 : t253 = true
              · subst c36
                have H1 : ((laws_markDebtS.f kj12 t235 1).bind fun bt254 => ((laws_markInt64S.f kj12 t238 bt254.1).bind fun bt256 => (if bt256.1 < 0 then (laws_FnExactCanPayFrom.j1 kj12 a0 l1 l2 t231 t232 t241 true) else ((laws_eqInt64S.f kj12 t241 t231).bind fun t258 => (if t258 = true then (laws_FnExactCanPayFrom.j1 kj12 a0 l1 l2 t231 t232 t241 (t242 != t232)) else (laws_FnExactCanPayFrom.j1 kj12 a0 l1 l2 t231 t232 t241 true)))))) = some r := by rw [if_pos rfl] at H; exact H
                clear H
                have H := H1
                clear H1
                replace H := Option.bind_eq_some_iff.mp H
                obtain ⟨⟨t254, t255⟩, A370, H⟩ := H
                replace H : ((laws_markInt64S.f kj12 t238 t254).bind fun bt256 => (if bt256.1 < 0 then (laws_FnExactCanPayFrom.j1 kj12 a0 l1 l2 t231 t232 t241 true) else ((laws_eqInt64S.f kj12 t241 t231).bind fun t258 => (if t258 = true then (laws_FnExactCanPayFrom.j1 kj12 a0 l1 l2 t231 t232 t241 (t242 != t232)) else (laws_FnExactCanPayFrom.j1 kj12 a0 l1 l2 t231 t232 t241 true))))) = some r := H
                have A37 := Aside0.mk A370
                clear A370
                replace H := Option.bind_eq_some_iff.mp H
                obtain ⟨⟨t256, t257⟩, A380, H⟩ := H
                replace H : (if t256 < 0 then (laws_FnExactCanPayFrom.j1 kj12 a0 l1 l2 t231 t232 t241 true) else ((laws_eqInt64S.f kj12 t241 t231).bind fun t258 => (if t258 = true then (laws_FnExactCanPayFrom.j1 kj12 a0 l1 l2 t231 t232 t241 (t242 != t232)) else (laws_FnExactCanPayFrom.j1 kj12 a0 l1 l2 t231 t232 t241 true)))) = some r := H
                have A38 := Aside0.mk A380
                clear A380
                have HC39 := Aside0.mk H
                clear H
                go_upto_region 20 with (first | ((with_reducible refine gate_callee (f := 17) rfl ?_); refine goesL_ (some 58) rfl rfl Try.func17 (by kernel_rfl) rfl #[.slice A1 l1.length c1] rfl (by (try simp only [List.map_toArray, List.map_cons, List.map_nil]); first | done | (go_simp; done) | rfl | (simp only [List.length_drop, List.length_take]; rfl)) ?_; (with_reducible refine (laws_toDebtS.calls kj12 _ _ l1 t246 _ ?side1 ?side2 A31.out).mono ?_); (case side1 => repeat (first | exact (Kd.C_below HR1.out HB.out) | (with_reducible refine Kd.C_alloc ?_ _) | (with_reducible refine Kd.C_drewN ?_ _) | (with_reducible refine Kd.C_drew ?_))); (case side2 => exact HC1.out); rintro e w40 ⟨v247, rfl, ho0, hb⟩; refine ⟨_, rfl, ?_⟩; have n0_ := Aside0.mk (Kd.R_below (by (with_reducible repeat (first | apply Kd.R_alloc | apply Kd.R_drewN | apply Kd.R_drew)); exact HO_8.out) hb); have n1_ := Aside0.mk (Kd.R_elder' (by (with_reducible repeat (first | apply Kd.R_alloc | apply Kd.R_drewN | apply Kd.R_drew)); exact HO_10.out) (Kd.R_base ho0) hb); have n2_ := Aside0.mk (Kd.R_below (by (with_reducible repeat (first | apply Kd.R_alloc | apply Kd.R_drewN | apply Kd.R_drew)); exact HO_11.out) hb); have n3_ := Aside0.mk (Kd.R_below (by (with_reducible repeat (first | apply Kd.R_alloc | apply Kd.R_drewN | apply Kd.R_drew)); exact HO_12.out) hb); have n4_ := Aside0.mk (Kd.R_lower (Kd.R_new' ho0 (Kd.R_lt (by (with_reducible repeat (first | apply Kd.R_alloc | apply Kd.R_drewN | apply Kd.R_drew)); exact HO_10.out))) (below_size (by repeat (first | (with_reducible first | exact HB.out | apply below_alloc | apply pw_below_drewN | apply below_drew1) | exact HB.out)))); have n5_ := Aside0.mk (below_step (by repeat (first | (with_reducible first | exact HB.out | apply below_alloc | apply pw_below_drewN | apply below_drew1) | exact HB.out)) hb); clear HO_8; clear HO_10; clear HO_11; clear HO_12; clear HB; have HO_8 := n0_; have HO_10 := n1_; have HO_11 := n2_; have HO_12 := n3_; have HO248 := n4_; have HB := n5_; clear n0_ n1_ n2_ n3_ n4_ n5_; (try clear hb); (try clear hb2); (try clear hk); (try clear hi); (try clear ho0); obtain ⟨Ao41, co41, eo41⟩ := Kd.R_slice HO248.out; subst eo41) | ((with_reducible refine gate_callee (f := 19) rfl ?_); refine goesL_ (some 59) rfl rfl Try.func19 (by kernel_rfl) rfl #[.slice Ao21 t235.length co21, .slice Ao41 t246.length co41] rfl (by (try simp only [List.map_toArray, List.map_cons, List.map_nil]); first | done | (go_simp; done) | rfl | (simp only [List.length_drop, List.length_take]; rfl)) ?_; (with_reducible refine (laws_eqDebtS.calls kj12 _ _ t235 _ _ t246 true _ ?side1 ?side2 ?side3 ?side4 A32.out).mono ?_); (case side1 => repeat (first | exact (Kd.R_reads' HO_10.out).2.2 | (with_reducible refine Kd.C_alloc ?_ _) | (with_reducible refine Kd.C_drewN ?_ _) | (with_reducible refine Kd.C_drew ?_))); (case side2 => exact (Kd.R_reads' HO_10.out).2.1); (case side3 => repeat (first | exact (Kd.R_reads' HO248.out).2.2 | (with_reducible refine Kd.C_alloc ?_ _) | (with_reducible refine Kd.C_drewN ?_ _) | (with_reducible refine Kd.C_drew ?_))); (case side4 => exact (Kd.R_reads' HO248.out).2.1); rintro e w42 ⟨rfl, hb⟩; refine ⟨_, rfl, ?_⟩; have n0_ := Aside0.mk (Kd.R_below (by (with_reducible repeat (first | apply Kd.R_alloc | apply Kd.R_drewN | apply Kd.R_drew)); exact HO_8.out) hb); have n1_ := Aside0.mk (Kd.R_below (by (with_reducible repeat (first | apply Kd.R_alloc | apply Kd.R_drewN | apply Kd.R_drew)); exact HO_10.out) hb); have n2_ := Aside0.mk (Kd.R_below (by (with_reducible repeat (first | apply Kd.R_alloc | apply Kd.R_drewN | apply Kd.R_drew)); exact HO_11.out) hb); have n3_ := Aside0.mk (Kd.R_below (by (with_reducible repeat (first | apply Kd.R_alloc | apply Kd.R_drewN | apply Kd.R_drew)); exact HO_12.out) hb); have n4_ := Aside0.mk (Kd.R_below (by (with_reducible repeat (first | apply Kd.R_alloc | apply Kd.R_drewN | apply Kd.R_drew)); exact HO248.out) hb); have n5_ := Aside0.mk (below_step (by repeat (first | (with_reducible first | exact HB.out | apply below_alloc | apply pw_below_drewN | apply below_drew1) | exact HB.out)) hb); clear HO_8; clear HO_10; clear HO_11; clear HO_12; clear HO248; clear HB; have HO_8 := n0_; have HO_10 := n1_; have HO_11 := n2_; have HO_12 := n3_; have HO248 := n4_; have HB := n5_; clear n0_ n1_ n2_ n3_ n4_ n5_; (try clear hb); (try clear hb2); (try clear hk); (try clear hi)) | ((with_reducible refine gate_callee (f := 32) rfl ?_); refine goesL_ (some 63) rfl rfl Try.func32 (by kernel_rfl) rfl #[.slice A2 l2.length c2] rfl (by (try simp only [List.map_toArray, List.map_cons, List.map_nil]); first | done | (go_simp; done) | rfl | (simp only [List.length_drop, List.length_take]; rfl)) ?_; (with_reducible refine (laws_toInt64S.calls kj12 _ _ l2 t250 _ ?side1 ?side2 A34.out).mono ?_); (case side1 => repeat (first | exact (Kd.C_below HR2.out HB.out) | (with_reducible refine Kd.C_alloc ?_ _) | (with_reducible refine Kd.C_drewN ?_ _) | (with_reducible refine Kd.C_drew ?_))); (case side2 => exact HC2.out); rintro e w43 ⟨v251, rfl, ho0, hb⟩; refine ⟨_, rfl, ?_⟩; have n0_ := Aside0.mk (Kd.R_elder' (by (with_reducible repeat (first | apply Kd.R_alloc | apply Kd.R_drewN | apply Kd.R_drew)); exact HO_8.out) (Kd.R_base ho0) hb); have n1_ := Aside0.mk (Kd.R_below (by (with_reducible repeat (first | apply Kd.R_alloc | apply Kd.R_drewN | apply Kd.R_drew)); exact HO_10.out) hb); have n2_ := Aside0.mk (Kd.R_elder' (by (with_reducible repeat (first | apply Kd.R_alloc | apply Kd.R_drewN | apply Kd.R_drew)); exact HO_11.out) (Kd.R_base ho0) hb); have n3_ := Aside0.mk (Kd.R_elder' (by (with_reducible repeat (first | apply Kd.R_alloc | apply Kd.R_drewN | apply Kd.R_drew)); exact HO_12.out) (Kd.R_base ho0) hb); have n4_ := Aside0.mk (Kd.R_below (by (with_reducible repeat (first | apply Kd.R_alloc | apply Kd.R_drewN | apply Kd.R_drew)); exact HO248.out) hb); have n5_ := Aside0.mk (Kd.R_lower (Kd.R_new' (Kd.R_new' (Kd.R_new' ho0 (Kd.R_lt (by (with_reducible repeat (first | apply Kd.R_alloc | apply Kd.R_drewN | apply Kd.R_drew)); exact HO_8.out))) (Kd.R_lt (by (with_reducible repeat (first | apply Kd.R_alloc | apply Kd.R_drewN | apply Kd.R_drew)); exact HO_11.out))) (Kd.R_lt (by (with_reducible repeat (first | apply Kd.R_alloc | apply Kd.R_drewN | apply Kd.R_drew)); exact HO_12.out))) (below_size (by repeat (first | (with_reducible first | exact HB.out | apply below_alloc | apply pw_below_drewN | apply below_drew1) | exact HB.out)))); have n6_ := Aside0.mk (below_step (by repeat (first | (with_reducible first | exact HB.out | apply below_alloc | apply pw_below_drewN | apply below_drew1) | exact HB.out)) hb); clear HO_8; clear HO_10; clear HO_11; clear HO_12; clear HO248; clear HB; have HO_8 := n0_; have HO_10 := n1_; have HO_11 := n2_; have HO_12 := n3_; have HO248 := n4_; have HO252 := n5_; have HB := n6_; clear n0_ n1_ n2_ n3_ n4_ n5_ n6_; (try clear hb); (try clear hb2); (try clear hk); (try clear hi); (try clear ho0); obtain ⟨Ao44, co44, eo44⟩ := Kd.R_slice HO252.out; subst eo44) | ((with_reducible refine gate_callee (f := 28) rfl ?_); refine goesL_ (some 64) rfl rfl Try.func28 (by kernel_rfl) rfl #[.slice Ao22 t238.length co22, .slice Ao44 t250.length co44] rfl (by (try simp only [List.map_toArray, List.map_cons, List.map_nil]); first | done | (go_simp; done) | rfl | (simp only [List.length_drop, List.length_take]; rfl)) ?_; (with_reducible refine (laws_eqInt64S.calls kj12 _ _ t238 _ _ t250 true _ ?side1 ?side2 ?side3 ?side4 A35.out).mono ?_); (case side1 => repeat (first | exact (Kd.R_reads' HO_11.out).2.2 | (with_reducible refine Kd.C_alloc ?_ _) | (with_reducible refine Kd.C_drewN ?_ _) | (with_reducible refine Kd.C_drew ?_))); (case side2 => exact (Kd.R_reads' HO_11.out).2.1); (case side3 => repeat (first | exact (Kd.R_reads' HO252.out).2.2 | (with_reducible refine Kd.C_alloc ?_ _) | (with_reducible refine Kd.C_drewN ?_ _) | (with_reducible refine Kd.C_drew ?_))); (case side4 => exact (Kd.R_reads' HO252.out).2.1); rintro e w' ⟨rfl, ⟨nd, rfl⟩⟩; refine ⟨_, rfl, ?_⟩) | ((with_reducible refine gate_callee (f := 22) rfl ?_); refine goesL_ (some 68) rfl rfl Try.func22 (by kernel_rfl) rfl #[.slice Ao21 t235.length co21, .int .i64 1] rfl (by (try simp only [List.map_toArray, List.map_cons, List.map_nil]); first | done | (go_simp; done) | rfl | (simp only [List.length_drop, List.length_take]; rfl)) ?_; (with_reducible refine (laws_markDebtS.calls kj12 (fun k_ => some k_ = (.slice Ao21 t235.length co21 : Value).ownBlock) (.slice Ao21 t235.length co21) t235 1 t254 t255 w _ ?side1 ?side2 A37.out).mono ?_); (case side1 => repeat (first | (with_reducible first | exact HB.out | apply below_alloc | apply pw_below_drewN | apply below_drew1) | exact HB.out)); (case side2 => exact Kd.R_tight rfl HO_10.out); rintro e w45 ⟨rfl, hy0, hb, hkp⟩; refine ⟨_, rfl, ?_⟩; have n0_ := Aside0.mk (Kd.R_mono (ok' := fun k_ => some k_ ≠ (.slice Ao22 t238.length co22 : Value).ownBlock ∧ some k_ ≠ (v243 : Value).ownBlock ∧ some k_ ≠ (.slice Ao44 t250.length co44 : Value).ownBlock) (Kd.R_keptB ((Kd.R_apart' HO_8.out (Kd.R_typed HO_10.out) (by decide))) hkp (fun k_ hk_ hs_ => (hk_.2) hs_)) (fun k_ hk_ => ⟨hk_.1.1.1.1, hk_.1.1.1.2, hk_.1.1.2⟩)); have n1_ := Aside0.mk (Kd.R_reok rfl hy0 (fun k_ e_ => HO_10.out.1 k_ e_)); have n2_ := Aside0.mk (Kd.R_mono (ok' := fun k_ => some k_ ≠ (v233 : Value).ownBlock ∧ some k_ ≠ (v243 : Value).ownBlock ∧ some k_ ≠ (.slice Ao44 t250.length co44 : Value).ownBlock) (Kd.R_keptB ((Kd.R_apart' HO_11.out (Kd.R_typed HO_10.out) (by decide))) hkp (fun k_ hk_ hs_ => (hk_.2) hs_)) (fun k_ hk_ => ⟨hk_.1.1.1.1, hk_.1.1.1.2, hk_.1.1.2⟩)); have n3_ := Aside0.mk (Kd.R_mono (ok' := fun k_ => some k_ ≠ (v233 : Value).ownBlock ∧ some k_ ≠ (.slice Ao22 t238.length co22 : Value).ownBlock ∧ some k_ ≠ (.slice Ao44 t250.length co44 : Value).ownBlock) (Kd.R_keptB ((Kd.R_apart' HO_12.out (Kd.R_typed HO_10.out) (by decide))) hkp (fun k_ hk_ hs_ => (hk_.2) hs_)) (fun k_ hk_ => ⟨hk_.1.1.1.1, hk_.1.1.1.2, hk_.1.1.2⟩)); have n4_ := Aside0.mk (Kd.R_mono (ok' := fun k_ => some k_ ≠ (.slice Ao21 t235.length co21 : Value).ownBlock) (Kd.R_keptB (HO248.out) hkp (fun k_ hk_ hs_ => (hk_.2) hs_)) (fun k_ hk_ => hk_.1.2)); have n5_ := Aside0.mk (Kd.R_mono (ok' := fun k_ => some k_ ≠ (v233 : Value).ownBlock ∧ some k_ ≠ (.slice Ao22 t238.length co22 : Value).ownBlock ∧ some k_ ≠ (v243 : Value).ownBlock) (Kd.R_keptB ((Kd.R_apart' HO252.out (Kd.R_typed HO_10.out) (by decide))) hkp (fun k_ hk_ hs_ => (hk_.2) hs_)) (fun k_ hk_ => ⟨hk_.1.1.1.1.2, hk_.1.1.1.2, hk_.1.1.2⟩)); have n6_ := Aside0.mk (hb); clear HO_8; clear HO_10; clear HO_11; clear HO_12; clear HO248; clear HO252; clear HB; have HO_8 := n0_; have HO_10 := n1_; have HO_11 := n2_; have HO_12 := n3_; have HO248 := n4_; have HO252 := n5_; have HB := n6_; clear n0_ n1_ n2_ n3_ n4_ n5_ n6_; (try clear hb); (try clear hkp); (try clear hy0)) | ((with_reducible refine gate_callee (f := 29) rfl ?_); refine goesL_ (some 71) rfl rfl Try.func29 (by kernel_rfl) rfl #[.slice Ao22 t238.length co22, .int .i64 t254] rfl (by (try simp only [List.map_toArray, List.map_cons, List.map_nil]); first | done | (go_simp; done) | rfl | (simp only [List.length_drop, List.length_take]; rfl)) ?_; (with_reducible refine (laws_markInt64S.calls kj12 (fun k_ => some k_ = (.slice Ao22 t238.length co22 : Value).ownBlock) (.slice Ao22 t238.length co22) t238 t254 t256 t257 w _ ?side1 ?side2 A38.out).mono ?_); (case side1 => repeat (first | (with_reducible first | exact HB.out | apply below_alloc | apply pw_below_drewN | apply below_drew1) | exact HB.out)); (case side2 => exact Kd.R_tight rfl HO_11.out); rintro e w46 ⟨rfl, hy0, hb, hkp⟩; refine ⟨_, rfl, ?_⟩; have n0_ := Aside0.mk (Kd.R_mono (ok' := fun k_ => some k_ ≠ (.slice Ao22 t238.length co22 : Value).ownBlock ∧ some k_ ≠ (v243 : Value).ownBlock ∧ some k_ ≠ (.slice Ao44 t250.length co44 : Value).ownBlock) (Kd.R_keptB (HO_8.out) hkp (fun k_ hk_ hs_ => (hk_.1) hs_)) (fun k_ hk_ => ⟨hk_.1.1, hk_.1.2.1, hk_.1.2.2⟩)); have n1_ := Aside0.mk (Kd.R_mono (ok' := fun k_ => some k_ ≠ (.slice Ao41 t246.length co41 : Value).ownBlock) (Kd.R_keptB ((Kd.R_apart' HO_10.out (Kd.R_typed HO_11.out) (by decide))) hkp (fun k_ hk_ hs_ => (hk_.2) hs_)) (fun k_ hk_ => hk_.1.1.2)); have n2_ := Aside0.mk (Kd.R_reok rfl hy0 (fun k_ e_ => HO_11.out.1 k_ e_)); have n3_ := Aside0.mk (Kd.R_mono (ok' := fun k_ => some k_ ≠ (v233 : Value).ownBlock ∧ some k_ ≠ (.slice Ao22 t238.length co22 : Value).ownBlock ∧ some k_ ≠ (.slice Ao44 t250.length co44 : Value).ownBlock) (Kd.R_keptB (HO_12.out) hkp (fun k_ hk_ hs_ => (hk_.2.1) hs_)) (fun k_ hk_ => ⟨hk_.1.1, hk_.1.2.1, hk_.1.2.2⟩)); have n4_ := Aside0.mk (Kd.R_mono (ok' := fun k_ => some k_ ≠ (.slice Ao21 t235.length co21 : Value).ownBlock) (Kd.R_keptB ((Kd.R_apart' HO248.out (Kd.R_typed HO_11.out) (by decide))) hkp (fun k_ hk_ hs_ => (hk_.2) hs_)) (fun k_ hk_ => hk_.1.1)); have n5_ := Aside0.mk (Kd.R_mono (ok' := fun k_ => some k_ ≠ (v233 : Value).ownBlock ∧ some k_ ≠ (.slice Ao22 t238.length co22 : Value).ownBlock ∧ some k_ ≠ (v243 : Value).ownBlock) (Kd.R_keptB (HO252.out) hkp (fun k_ hk_ hs_ => (hk_.2.1) hs_)) (fun k_ hk_ => ⟨hk_.1.1, hk_.1.2.1, hk_.1.2.2⟩)); have n6_ := Aside0.mk (hb); clear HO_8; clear HO_10; clear HO_11; clear HO_12; clear HO248; clear HO252; clear HB; have HO_8 := n0_; have HO_10 := n1_; have HO_11 := n2_; have HO_12 := n3_; have HO248 := n4_; have HO252 := n5_; have HB := n6_; clear n0_ n1_ n2_ n3_ n4_ n5_ n6_; (try clear hb); (try clear hkp); (try clear hy0)))
                (try simp only [Act.put, List.setIfInBounds_toArray, List.set_cons_zero, List.set_cons_succ])
                go_cut [84] (fun v84 wc => ∃ (kq : Nat) (x84_38 : Bool), v84 = .bool x84_38 ∧ Aside0 (laws_FnExactCanPayFrom.j1 kq a0 l1 l2 t231 t232 t241 x84_38 = some r) ∧ Aside0 (kq ≤ kj12) ∧ Aside0 (Kd.R (Kd.int .i64) 2 wc w.heap.size (fun k_ => some k_ ≠ (v243 : Value).ownBlock) v233 t231) ∧ Aside0 (Kd.R (Kd.int .i64) 2 wc w.heap.size (fun k_ => some k_ ≠ (v233 : Value).ownBlock) v243 t241) ∧ Aside0 (Below w.heap.size w wc))
                case first =>
                  have H := HC39.out
                  clear HC39
                  by_cases c47 : t256 < 0
                  · rw [if_pos c47] at H
                    have c47b0 : decide (t256 < 0) = true := decide_eq_true c47
                    clear c47
                    (first | rw [c47b0] | (simp only [i64_w, i32_w]; rw [c47b0]) | skip)
                    have H' := Aside0.mk H
                    clear H
                    go_wp2
                    go_meet
                    case rel => exact ⟨_, (true), (by first | rfl | (simp; done) | (simp [*]; done)), H', ⟨by have := HJ12.out; first | omega | exact Nat.le_refl _⟩, ⟨by (with_reducible repeat (first | apply Kd.R_alloc | apply Kd.R_drewN | apply Kd.R_drew)); exact Kd.R_mono HO_8.out (fun _ hk => hk.2.1)⟩, ⟨by (with_reducible repeat (first | apply Kd.R_alloc | apply Kd.R_drewN | apply Kd.R_drew)); exact Kd.R_mono HO_12.out (fun _ hk => hk.1)⟩, ⟨by repeat (first | (with_reducible first | exact HB.out | apply below_alloc | apply pw_below_drewN | apply below_drew1) | exact HB.out)⟩⟩
                  · rw [if_neg c47] at H
                    have c47b0 : decide (t256 < 0) = false := decide_eq_false c47
                    clear c47
                    (first | rw [c47b0] | (simp only [i64_w, i32_w]; rw [c47b0]) | skip)
                    replace H := Option.bind_eq_some_iff.mp H
                    obtain ⟨t258, A480, H⟩ := H
                    replace H : (if t258 = true then (laws_FnExactCanPayFrom.j1 kj12 a0 l1 l2 t231 t232 t241 (t242 != t232)) else (laws_FnExactCanPayFrom.j1 kj12 a0 l1 l2 t231 t232 t241 true)) = some r := H
                    have A48 := Aside0.mk A480
                    clear A480
                    by_cases c49 : t258 = true
                    · subst c49
                      have H1 : (laws_FnExactCanPayFrom.j1 kj12 a0 l1 l2 t231 t232 t241 (t242 != t232)) = some r := by rw [if_pos rfl] at H; exact H
                      clear H
                      have H := H1
                      clear H1
                      have H' := Aside0.mk H
                      clear H
                      obtain ⟨Ao50, co50, eo50⟩ := Kd.R_slice HO_12.out
                      subst eo50
                      obtain ⟨Ao51, co51, eo51⟩ := Kd.R_slice HO_8.out
                      subst eo51
                      go_wp2_with (first | (go_at_call 28; (with_reducible refine (laws_eqInt64S.calls kj12 _ _ t241 _ _ t231 true _ ?side1 ?side2 ?side3 ?side4 A48.out).mono ?_); (case side1 => repeat (first | exact (Kd.R_reads' HO_12.out).2.2 | (with_reducible refine Kd.C_alloc ?_ _) | (with_reducible refine Kd.C_drewN ?_ _) | (with_reducible refine Kd.C_drew ?_))); (case side2 => exact (Kd.R_reads' HO_12.out).2.1); (case side3 => repeat (first | exact (Kd.R_reads' HO_8.out).2.2 | (with_reducible refine Kd.C_alloc ?_ _) | (with_reducible refine Kd.C_drewN ?_ _) | (with_reducible refine Kd.C_drew ?_))); (case side4 => exact (Kd.R_reads' HO_8.out).2.1); rintro e w' ⟨rfl, ⟨nd, rfl⟩⟩))
                      go_meet
                      case rel => exact ⟨_, ((t242 != t232)), (by first | rfl | (simp; done) | (simp [*]; done)), H', ⟨by have := HJ12.out; first | omega | exact Nat.le_refl _⟩, ⟨by (with_reducible repeat (first | apply Kd.R_alloc | apply Kd.R_drewN | apply Kd.R_drew)); exact Kd.R_mono HO_8.out (fun _ hk => hk.2.1)⟩, ⟨by (with_reducible repeat (first | apply Kd.R_alloc | apply Kd.R_drewN | apply Kd.R_drew)); exact Kd.R_mono HO_12.out (fun _ hk => hk.1)⟩, ⟨by repeat (first | (with_reducible first | exact HB.out | apply below_alloc | apply pw_below_drewN | apply below_drew1) | exact HB.out)⟩⟩
                    · replace c49 := Bool.eq_false_iff.mpr c49
                      subst c49
                      have H1 : (laws_FnExactCanPayFrom.j1 kj12 a0 l1 l2 t231 t232 t241 true) = some r := by rw [if_neg (show ¬ (false = true) by decide)] at H; exact H
                      clear H
                      have H := H1
                      clear H1
                      have H' := Aside0.mk H
                      clear H
                      obtain ⟨Ao52, co52, eo52⟩ := Kd.R_slice HO_12.out
                      subst eo52
                      obtain ⟨Ao53, co53, eo53⟩ := Kd.R_slice HO_8.out
                      subst eo53
                      go_wp2_with (first | (go_at_call 28; (with_reducible refine (laws_eqInt64S.calls kj12 _ _ t241 _ _ t231 false _ ?side1 ?side2 ?side3 ?side4 A48.out).mono ?_); (case side1 => repeat (first | exact (Kd.R_reads' HO_12.out).2.2 | (with_reducible refine Kd.C_alloc ?_ _) | (with_reducible refine Kd.C_drewN ?_ _) | (with_reducible refine Kd.C_drew ?_))); (case side2 => exact (Kd.R_reads' HO_12.out).2.1); (case side3 => repeat (first | exact (Kd.R_reads' HO_8.out).2.2 | (with_reducible refine Kd.C_alloc ?_ _) | (with_reducible refine Kd.C_drewN ?_ _) | (with_reducible refine Kd.C_drew ?_))); (case side4 => exact (Kd.R_reads' HO_8.out).2.1); rintro e w' ⟨rfl, ⟨nd, rfl⟩⟩))
                      go_meet
                      case rel => exact ⟨_, (true), (by first | rfl | (simp; done) | (simp [*]; done)), H', ⟨by have := HJ12.out; first | omega | exact Nat.le_refl _⟩, ⟨by (with_reducible repeat (first | apply Kd.R_alloc | apply Kd.R_drewN | apply Kd.R_drew)); exact Kd.R_mono HO_8.out (fun _ hk => hk.2.1)⟩, ⟨by (with_reducible repeat (first | apply Kd.R_alloc | apply Kd.R_drewN | apply Kd.R_drew)); exact Kd.R_mono HO_12.out (fun _ hk => hk.1)⟩, ⟨by repeat (first | (with_reducible first | exact HB.out | apply below_alloc | apply pw_below_drewN | apply below_drew1) | exact HB.out)⟩⟩
                case rest =>
                  clear HC39
                  try clear c1
                  try clear c2
                  try clear p2
                  try clear c3
                  try clear c4
                  try clear c4b0
                  try clear c4b1
                  try clear c6
                  try clear c6b0
                  try clear c12
                  try clear c15
                  try clear c17
                  try clear c19
                  try clear c22
                  try clear c25
                  try clear c28
                  try clear c29
                  try clear c30
                  try clear c32
                  try clear c33
                  try clear c36
                  try clear c42
                  try clear c43
                  try clear c47
                  try clear c47b0
                  try clear c49
                  try clear p2
                  obtain ⟨kq, x84_38, rfl, HA, HJ38, HO_8, HO_12, HB⟩ := hcut
                  cases kq with
                  | zero => exact absurd HA.out (by simp [laws_FnExactCanPayFrom.j1])
                  | succ kj38 =>
                    have H := HA.out
                    clear HA
                    simp only [laws_FnExactCanPayFrom.j1] at H
                    by_cases c54 : x84_38 = true
                    · subst c54
                      have H1 : (some false) = some r := by rw [if_pos rfl] at H; exact H
                      clear H
                      have H := H1
                      clear H1
                      obtain rfl := Option.some.inj H
                      cases ht
                    · replace c54 := Bool.eq_false_iff.mpr c54
                      subst c54
                      have H1 : ((laws_markInt64S.f kj38 t241 1).bind fun bt259 => ((laws_heldInt64S.f kj38 bt259.2 1).bind fun t261 => (if t261 < 0 then (some false) else (if t261 = bt259.1 then ((laws_toDebtS.f kj38 l1).bind fun t262 => ((laws_toInt64S.f kj38 l2).bind fun t265 => ((impl_CanPayFrom.f kj38 a0 t262 t265).bind fun bt268 => ((laws_eqInt64S.f kj38 bt268.1 t231).bind fun t272 => (if t272 = true then (laws_FnExactCanPayFrom.j2 kj38 bt259.2 bt259.1 (bt268.2 != t232)) else (laws_FnExactCanPayFrom.j2 kj38 bt259.2 bt259.1 true)))))) else (some false))))) = some r := by rw [if_neg (show ¬ (false = true) by decide)] at H; exact H
                      clear H
                      have H := H1
                      clear H1
                      replace H := Option.bind_eq_some_iff.mp H
                      obtain ⟨⟨t259, t260⟩, A550, H⟩ := H
                      replace H : ((laws_heldInt64S.f kj38 t260 1).bind fun t261 => (if t261 < 0 then (some false) else (if t261 = t259 then ((laws_toDebtS.f kj38 l1).bind fun t262 => ((laws_toInt64S.f kj38 l2).bind fun t265 => ((impl_CanPayFrom.f kj38 a0 t262 t265).bind fun bt268 => ((laws_eqInt64S.f kj38 bt268.1 t231).bind fun t272 => (if t272 = true then (laws_FnExactCanPayFrom.j2 kj38 t260 t259 (bt268.2 != t232)) else (laws_FnExactCanPayFrom.j2 kj38 t260 t259 true)))))) else (some false)))) = some r := H
                      have A55 := Aside0.mk A550
                      clear A550
                      replace H := Option.bind_eq_some_iff.mp H
                      obtain ⟨t261, A560, H⟩ := H
                      replace H : (if t261 < 0 then (some false) else (if t261 = t259 then ((laws_toDebtS.f kj38 l1).bind fun t262 => ((laws_toInt64S.f kj38 l2).bind fun t265 => ((impl_CanPayFrom.f kj38 a0 t262 t265).bind fun bt268 => ((laws_eqInt64S.f kj38 bt268.1 t231).bind fun t272 => (if t272 = true then (laws_FnExactCanPayFrom.j2 kj38 t260 t259 (bt268.2 != t232)) else (laws_FnExactCanPayFrom.j2 kj38 t260 t259 true)))))) else (some false))) = some r := H
                      have A56 := Aside0.mk A560
                      clear A560
                      by_cases c57 : t261 < 0
                      · rw [if_pos c57] at H
                        have c57b0 : decide (t261 < 0) = true := decide_eq_true c57
                        clear c57
                        obtain rfl := Option.some.inj H
                        cases ht
                      · rw [if_neg c57] at H
                        have c57b0 : decide (t261 < 0) = false := decide_eq_false c57
                        clear c57
                        by_cases c58 : t261 = t259
                        · rw [if_pos c58] at H
                          have c58b0 : (t261 == t259) = true := beq_iff_eq.mpr c58
                          have c58b1 : (t261 != t259) = false := bne_eq_false_iff_eq.mpr c58
                          clear c58
                          replace H := Option.bind_eq_some_iff.mp H
                          obtain ⟨t262, A590, H⟩ := H
                          replace H : ((laws_toInt64S.f kj38 l2).bind fun t265 => ((impl_CanPayFrom.f kj38 a0 t262 t265).bind fun bt268 => ((laws_eqInt64S.f kj38 bt268.1 t231).bind fun t272 => (if t272 = true then (laws_FnExactCanPayFrom.j2 kj38 t260 t259 (bt268.2 != t232)) else (laws_FnExactCanPayFrom.j2 kj38 t260 t259 true))))) = some r := H
                          have A59 := Aside0.mk A590
                          clear A590
                          replace H := Option.bind_eq_some_iff.mp H
                          obtain ⟨t265, A600, H⟩ := H
                          replace H : ((impl_CanPayFrom.f kj38 a0 t262 t265).bind fun bt268 => ((laws_eqInt64S.f kj38 bt268.1 t231).bind fun t272 => (if t272 = true then (laws_FnExactCanPayFrom.j2 kj38 t260 t259 (bt268.2 != t232)) else (laws_FnExactCanPayFrom.j2 kj38 t260 t259 true)))) = some r := H
                          have A60 := Aside0.mk A600
                          clear A600
                          replace H := Option.bind_eq_some_iff.mp H
                          obtain ⟨⟨t268, t269⟩, A610, H⟩ := H
                          replace H : ((laws_eqInt64S.f kj38 t268 t231).bind fun t272 => (if t272 = true then (laws_FnExactCanPayFrom.j2 kj38 t260 t259 (t269 != t232)) else (laws_FnExactCanPayFrom.j2 kj38 t260 t259 true))) = some r := H
                          have A61 := Aside0.mk A610
                          clear A610
                          have HC62 := Aside0.mk H
                          clear H
                          obtain ⟨Ao63, co63, eo63⟩ := Kd.R_slice HO_12.out
                          subst eo63
                          go_upto_region 31 with (first | ((with_reducible refine gate_callee (f := 29) rfl ?_); refine goesL_ (some 87) rfl rfl Try.func29 (by kernel_rfl) rfl #[.slice Ao63 t241.length co63, .int .i64 1] rfl (by (try simp only [List.map_toArray, List.map_cons, List.map_nil]); first | done | (go_simp; done) | rfl | (simp only [List.length_drop, List.length_take]; rfl)) ?_; (with_reducible refine (laws_markInt64S.calls kj38 (fun k_ => some k_ = (.slice Ao63 t241.length co63 : Value).ownBlock) (.slice Ao63 t241.length co63) t241 1 t259 t260 w _ ?side1 ?side2 A55.out).mono ?_); (case side1 => repeat (first | (with_reducible first | exact HB.out | apply below_alloc | apply pw_below_drewN | apply below_drew1) | exact HB.out)); (case side2 => exact Kd.R_tight rfl HO_12.out); rintro e w64 ⟨rfl, hy0, hb, hkp⟩; refine ⟨_, rfl, ?_⟩; have n0_ := Aside0.mk (Kd.R_mono (ok' := fun k_ => some k_ ≠ (.slice Ao63 t241.length co63 : Value).ownBlock) (Kd.R_keptB (HO_8.out) hkp (fun k_ hk_ hs_ => (hk_) hs_)) (fun k_ hk_ => hk_.1)); have n1_ := Aside0.mk (Kd.R_reok rfl hy0 (fun k_ e_ => HO_12.out.1 k_ e_)); have n2_ := Aside0.mk (hb); clear HO_8; clear HO_12; clear HB; have HO_8 := n0_; have HO_12 := n1_; have HB := n2_; clear n0_ n1_ n2_; (try clear hb); (try clear hkp); (try clear hy0)) | ((with_reducible refine gate_callee (f := 30) rfl ?_); refine goesL_ (some 90) rfl rfl Try.func30 (by kernel_rfl) rfl #[.slice Ao63 t260.length co63, .int .i64 1] rfl (by (try simp only [List.map_toArray, List.map_cons, List.map_nil]); first | done | (rw [show t260.length = t241.length from (Kd.R_reads' HO_12.out).1.symm] <;> rfl) | (go_simp; done) | rfl | (simp only [List.length_drop, List.length_take]; rfl)) ?_; (with_reducible refine (laws_heldInt64S.calls kj38 _ _ t260 1 t261 _ ?side1 ?side2 A56.out).mono ?_); (case side1 => repeat (first | exact (Kd.R_reads' HO_12.out).2.2 | (with_reducible refine Kd.C_alloc ?_ _) | (with_reducible refine Kd.C_drewN ?_ _) | (with_reducible refine Kd.C_drew ?_))); (case side2 => rw [show t260.length = t241.length from (Kd.R_reads' HO_12.out).1.symm]; exact (Kd.R_reads' HO_12.out).2.1); rintro e w' ⟨rfl, ⟨nd, rfl⟩⟩; refine ⟨_, rfl, ?_⟩) | ((with_reducible refine gate_callee (f := 17) rfl ?_); refine goesL_ (some 99) rfl rfl Try.func17 (by kernel_rfl) rfl #[.slice A1 l1.length c1] rfl (by (try simp only [List.map_toArray, List.map_cons, List.map_nil]); first | done | (go_simp; done) | rfl | (simp only [List.length_drop, List.length_take]; rfl)) ?_; (with_reducible refine (laws_toDebtS.calls kj38 _ _ l1 t262 _ ?side1 ?side2 A59.out).mono ?_); (case side1 => repeat (first | exact (Kd.C_below HR1.out (by repeat (first | (with_reducible first | exact HB.out | apply below_alloc | apply pw_below_drewN | apply below_drew1) | exact HB.out))) | (with_reducible refine Kd.C_alloc ?_ _) | (with_reducible refine Kd.C_drewN ?_ _) | (with_reducible refine Kd.C_drew ?_))); (case side2 => exact HC1.out); rintro e w65 ⟨v263, rfl, ho0, hb⟩; refine ⟨_, rfl, ?_⟩; have n0_ := Aside0.mk (Kd.R_below (by (with_reducible repeat (first | apply Kd.R_alloc | apply Kd.R_drewN | apply Kd.R_drew)); exact HO_8.out) hb); have n1_ := Aside0.mk (Kd.R_below (by (with_reducible repeat (first | apply Kd.R_alloc | apply Kd.R_drewN | apply Kd.R_drew)); exact HO_12.out) hb); have n2_ := Aside0.mk (Kd.R_lower ho0 (below_size (by repeat (first | (with_reducible first | exact HB.out | apply below_alloc | apply pw_below_drewN | apply below_drew1) | exact HB.out)))); have n3_ := Aside0.mk (below_step (by repeat (first | (with_reducible first | exact HB.out | apply below_alloc | apply pw_below_drewN | apply below_drew1) | exact HB.out)) hb); clear HO_8; clear HO_12; clear HB; have HO_8 := n0_; have HO_12 := n1_; have HO264 := n2_; have HB := n3_; clear n0_ n1_ n2_ n3_; (try clear hb); (try clear hb2); (try clear hk); (try clear hi); (try clear ho0)) | ((with_reducible refine gate_callee (f := 32) rfl ?_); refine goesL_ (some 101) rfl rfl Try.func32 (by kernel_rfl) rfl #[.slice A2 l2.length c2] rfl (by (try simp only [List.map_toArray, List.map_cons, List.map_nil]); first | done | (go_simp; done) | rfl | (simp only [List.length_drop, List.length_take]; rfl)) ?_; (with_reducible refine (laws_toInt64S.calls kj38 _ _ l2 t265 _ ?side1 ?side2 A60.out).mono ?_); (case side1 => repeat (first | exact (Kd.C_below HR2.out HB.out) | (with_reducible refine Kd.C_alloc ?_ _) | (with_reducible refine Kd.C_drewN ?_ _) | (with_reducible refine Kd.C_drew ?_))); (case side2 => exact HC2.out); rintro e w66 ⟨v266, rfl, ho0, hb⟩; refine ⟨_, rfl, ?_⟩; have n0_ := Aside0.mk (Kd.R_elder' (by (with_reducible repeat (first | apply Kd.R_alloc | apply Kd.R_drewN | apply Kd.R_drew)); exact HO_8.out) (Kd.R_base ho0) hb); have n1_ := Aside0.mk (Kd.R_elder' (by (with_reducible repeat (first | apply Kd.R_alloc | apply Kd.R_drewN | apply Kd.R_drew)); exact HO_12.out) (Kd.R_base ho0) hb); have n2_ := Aside0.mk (Kd.R_below (by (with_reducible repeat (first | apply Kd.R_alloc | apply Kd.R_drewN | apply Kd.R_drew)); exact HO264.out) hb); have n3_ := Aside0.mk (Kd.R_lower (Kd.R_new' (Kd.R_new' ho0 (Kd.R_lt (by (with_reducible repeat (first | apply Kd.R_alloc | apply Kd.R_drewN | apply Kd.R_drew)); exact HO_8.out))) (Kd.R_lt (by (with_reducible repeat (first | apply Kd.R_alloc | apply Kd.R_drewN | apply Kd.R_drew)); exact HO_12.out))) (below_size (by repeat (first | (with_reducible first | exact HB.out | apply below_alloc | apply pw_below_drewN | apply below_drew1) | exact HB.out)))); have n4_ := Aside0.mk (below_step (by repeat (first | (with_reducible first | exact HB.out | apply below_alloc | apply pw_below_drewN | apply below_drew1) | exact HB.out)) hb); clear HO_8; clear HO_12; clear HO264; clear HB; have HO_8 := n0_; have HO_12 := n1_; have HO264 := n2_; have HO267 := n3_; have HB := n4_; clear n0_ n1_ n2_ n3_ n4_; (try clear hb); (try clear hb2); (try clear hk); (try clear hi); (try clear ho0); obtain ⟨Ao67, co67, eo67⟩ := Kd.R_slice HO264.out; subst eo67; obtain ⟨Ao68, co68, eo68⟩ := Kd.R_slice HO267.out; subst eo68) | ((with_reducible refine gate_callee (f := 43) rfl ?_); refine goesL_ (some 102) rfl rfl Try.func43 (by kernel_rfl) rfl #[.int .i64 a0, .slice Ao67 t262.length co67, .slice Ao68 t265.length co68] rfl (by (try simp only [List.map_toArray, List.map_cons, List.map_nil]); first | done | (go_simp; done) | rfl | (simp only [List.length_drop, List.length_take]; rfl)) ?_; (with_reducible refine (impl_CanPayFrom.calls kj38 a0 _ _ t262 _ _ t265 t268 t269 _ ?side1 ?side2 ?side3 ?side4 A61.out).mono ?_); (case side1 => repeat (first | exact (Kd.R_reads' HO264.out).2.2 | (with_reducible refine Kd.C_alloc ?_ _) | (with_reducible refine Kd.C_drewN ?_ _) | (with_reducible refine Kd.C_drew ?_))); (case side2 => exact (Kd.R_reads' HO264.out).2.1); (case side3 => repeat (first | exact (Kd.R_reads' HO267.out).2.2 | (with_reducible refine Kd.C_alloc ?_ _) | (with_reducible refine Kd.C_drewN ?_ _) | (with_reducible refine Kd.C_drew ?_))); (case side4 => exact (Kd.R_reads' HO267.out).2.1); rintro e w69 ⟨v270, rfl, ho0, hb⟩; refine ⟨_, rfl, ?_⟩; have n0_ := Aside0.mk (Kd.R_elder' (by (with_reducible repeat (first | apply Kd.R_alloc | apply Kd.R_drewN | apply Kd.R_drew)); exact HO_8.out) (Kd.R_base ho0) hb); have n1_ := Aside0.mk (Kd.R_elder' (by (with_reducible repeat (first | apply Kd.R_alloc | apply Kd.R_drewN | apply Kd.R_drew)); exact HO_12.out) (Kd.R_base ho0) hb); have n2_ := Aside0.mk (Kd.R_below (by (with_reducible repeat (first | apply Kd.R_alloc | apply Kd.R_drewN | apply Kd.R_drew)); exact HO264.out) hb); have n3_ := Aside0.mk (Kd.R_elder' (by (with_reducible repeat (first | apply Kd.R_alloc | apply Kd.R_drewN | apply Kd.R_drew)); exact HO267.out) (Kd.R_base ho0) hb); have n4_ := Aside0.mk (Kd.R_lower (Kd.R_new' (Kd.R_new' (Kd.R_new' ho0 (Kd.R_lt (by (with_reducible repeat (first | apply Kd.R_alloc | apply Kd.R_drewN | apply Kd.R_drew)); exact HO_8.out))) (Kd.R_lt (by (with_reducible repeat (first | apply Kd.R_alloc | apply Kd.R_drewN | apply Kd.R_drew)); exact HO_12.out))) (Kd.R_lt (by (with_reducible repeat (first | apply Kd.R_alloc | apply Kd.R_drewN | apply Kd.R_drew)); exact HO267.out))) (below_size (by repeat (first | (with_reducible first | exact HB.out | apply below_alloc | apply pw_below_drewN | apply below_drew1) | exact HB.out)))); have n5_ := Aside0.mk (below_step (by repeat (first | (with_reducible first | exact HB.out | apply below_alloc | apply pw_below_drewN | apply below_drew1) | exact HB.out)) hb); clear HO_8; clear HO_12; clear HO264; clear HO267; clear HB; have HO_8 := n0_; have HO_12 := n1_; have HO264 := n2_; have HO267 := n3_; have HO271 := n4_; have HB := n5_; clear n0_ n1_ n2_ n3_ n4_ n5_; (try clear hb); (try clear hb2); (try clear hk); (try clear hi); (try clear ho0)))
                          (try simp only [Act.put, List.setIfInBounds_toArray, List.set_cons_zero, List.set_cons_succ])
                          go_cut [113] (fun v113 wc => ∃ (kq : Nat) (x113_61 : Bool), v113 = .bool x113_61 ∧ Aside0 (laws_FnExactCanPayFrom.j2 kq t260 t259 x113_61 = some r) ∧ Aside0 (kq ≤ kj38) ∧ Aside0 (Kd.R (Kd.int .i64) 2 wc w.heap.size (fun _ => True) (.slice Ao63 t241.length co63) t260) ∧ Aside0 (Below w.heap.size w wc))
                          case first =>
                            have H := HC62.out
                            clear HC62
                            replace H := Option.bind_eq_some_iff.mp H
                            obtain ⟨t272, A700, H⟩ := H
                            replace H : (if t272 = true then (laws_FnExactCanPayFrom.j2 kj38 t260 t259 (t269 != t232)) else (laws_FnExactCanPayFrom.j2 kj38 t260 t259 true)) = some r := H
                            have A70 := Aside0.mk A700
                            clear A700
                            by_cases c71 : t272 = true
                            · subst c71
                              have H1 : (laws_FnExactCanPayFrom.j2 kj38 t260 t259 (t269 != t232)) = some r := by rw [if_pos rfl] at H; exact H
                              clear H
                              have H := H1
                              clear H1
                              have H' := Aside0.mk H
                              clear H
                              obtain ⟨Ao72, co72, eo72⟩ := Kd.R_slice HO271.out
                              subst eo72
                              obtain ⟨Ao73, co73, eo73⟩ := Kd.R_slice HO_8.out
                              subst eo73
                              go_wp2_with (first | ((with_reducible refine gate_callee (f := 28) rfl ?_); refine goesL_ (some 107) rfl rfl Try.func28 (by kernel_rfl) rfl #[.slice Ao72 t268.length co72, .slice Ao73 t231.length co73] rfl (by (try simp only [List.map_toArray, List.map_cons, List.map_nil]); first | done | (go_simp; done) | rfl | (simp only [List.length_drop, List.length_take]; rfl)) ?_; (with_reducible refine (laws_eqInt64S.calls kj38 _ _ t268 _ _ t231 true _ ?side1 ?side2 ?side3 ?side4 A70.out).mono ?_); (case side1 => repeat (first | exact (Kd.R_reads' HO271.out).2.2 | (with_reducible refine Kd.C_alloc ?_ _) | (with_reducible refine Kd.C_drewN ?_ _) | (with_reducible refine Kd.C_drew ?_))); (case side2 => exact (Kd.R_reads' HO271.out).2.1); (case side3 => repeat (first | exact (Kd.R_reads' HO_8.out).2.2 | (with_reducible refine Kd.C_alloc ?_ _) | (with_reducible refine Kd.C_drewN ?_ _) | (with_reducible refine Kd.C_drew ?_))); (case side4 => exact (Kd.R_reads' HO_8.out).2.1); rintro e w' ⟨rfl, ⟨nd, rfl⟩⟩; refine ⟨_, rfl, ?_⟩))
                              go_meet
                              case rel => exact ⟨_, ((t269 != t232)), (by first | rfl | (simp; done) | (simp [*]; done)), H', ⟨by have := HJ12.out; have := HJ38.out; first | omega | exact Nat.le_refl _⟩, ⟨by (with_reducible repeat (first | apply Kd.R_alloc | apply Kd.R_drewN | apply Kd.R_drew)); exact Kd.R_mono HO_12.out (fun _ hk => trivial)⟩, ⟨by repeat (first | (with_reducible first | exact HB.out | apply below_alloc | apply pw_below_drewN | apply below_drew1) | exact HB.out)⟩⟩
                            · replace c71 := Bool.eq_false_iff.mpr c71
                              subst c71
                              have H1 : (laws_FnExactCanPayFrom.j2 kj38 t260 t259 true) = some r := by rw [if_neg (show ¬ (false = true) by decide)] at H; exact H
                              clear H
                              have H := H1
                              clear H1
                              have H' := Aside0.mk H
                              clear H
                              obtain ⟨Ao74, co74, eo74⟩ := Kd.R_slice HO271.out
                              subst eo74
                              obtain ⟨Ao75, co75, eo75⟩ := Kd.R_slice HO_8.out
                              subst eo75
                              go_wp2_with (first | ((with_reducible refine gate_callee (f := 28) rfl ?_); refine goesL_ (some 107) rfl rfl Try.func28 (by kernel_rfl) rfl #[.slice Ao74 t268.length co74, .slice Ao75 t231.length co75] rfl (by (try simp only [List.map_toArray, List.map_cons, List.map_nil]); first | done | (go_simp; done) | rfl | (simp only [List.length_drop, List.length_take]; rfl)) ?_; (with_reducible refine (laws_eqInt64S.calls kj38 _ _ t268 _ _ t231 false _ ?side1 ?side2 ?side3 ?side4 A70.out).mono ?_); (case side1 => repeat (first | exact (Kd.R_reads' HO271.out).2.2 | (with_reducible refine Kd.C_alloc ?_ _) | (with_reducible refine Kd.C_drewN ?_ _) | (with_reducible refine Kd.C_drew ?_))); (case side2 => exact (Kd.R_reads' HO271.out).2.1); (case side3 => repeat (first | exact (Kd.R_reads' HO_8.out).2.2 | (with_reducible refine Kd.C_alloc ?_ _) | (with_reducible refine Kd.C_drewN ?_ _) | (with_reducible refine Kd.C_drew ?_))); (case side4 => exact (Kd.R_reads' HO_8.out).2.1); rintro e w' ⟨rfl, ⟨nd, rfl⟩⟩; refine ⟨_, rfl, ?_⟩))
                              go_meet
                              case rel => exact ⟨_, (true), (by first | rfl | (simp; done) | (simp [*]; done)), H', ⟨by have := HJ12.out; have := HJ38.out; first | omega | exact Nat.le_refl _⟩, ⟨by (with_reducible repeat (first | apply Kd.R_alloc | apply Kd.R_drewN | apply Kd.R_drew)); exact Kd.R_mono HO_12.out (fun _ hk => trivial)⟩, ⟨by repeat (first | (with_reducible first | exact HB.out | apply below_alloc | apply pw_below_drewN | apply below_drew1) | exact HB.out)⟩⟩
                          case rest =>
                            clear HC62
                            try clear c1
                            try clear c2
                            try clear p2
                            try clear c3
                            try clear c4
                            try clear c4b0
                            try clear c4b1
                            try clear c5
                            try clear c6
                            try clear c6b0
                            try clear c7
                            try clear c12
                            try clear c15
                            try clear c17
                            try clear c19
                            try clear c22
                            try clear c25
                            try clear c28
                            try clear c29
                            try clear c30
                            try clear c32
                            try clear c33
                            try clear c36
                            try clear c42
                            try clear c43
                            try clear c47
                            try clear c47b0
                            try clear c49
                            try clear c54
                            try clear c57
                            try clear c57b0
                            try clear c58
                            try clear c58b0
                            try clear c58b1
                            try clear c71
                            try clear p2
                            obtain ⟨kq, x113_61, rfl, HA, HJ61, HO_12, HB⟩ := hcut
                            have hl12_61 := (Kd.R_reads' HO_12.out).1
                            rw [hl12_61] at HO_12
                            (try simp only [hl12_61])
                            cases kq with
                            | zero => exact absurd HA.out (by simp [laws_FnExactCanPayFrom.j2])
                            | succ kj61 =>
                              have H := HA.out
                              clear HA
                              simp only [laws_FnExactCanPayFrom.j2] at H
                              by_cases c76 : x113_61 = true
                              · subst c76
                                have H1 : (some false) = some r := by rw [if_pos rfl] at H; exact H
                                clear H
                                have H := H1
                                clear H1
                                obtain rfl := Option.some.inj H
                                cases ht
                              · replace c76 := Bool.eq_false_iff.mpr c76
                                subst c76
                                have H1 : ((laws_heldInt64S.f kj61 t260 1).bind fun t273 => (if t273 < 0 then (some false) else (if t273 = t259 then (some true) else (some false)))) = some r := by rw [if_neg (show ¬ (false = true) by decide)] at H; exact H
                                clear H
                                have H := H1
                                clear H1
                                replace H := Option.bind_eq_some_iff.mp H
                                obtain ⟨t273, A770, H⟩ := H
                                replace H : (if t273 < 0 then (some false) else (if t273 = t259 then (some true) else (some false))) = some r := H
                                have A77 := Aside0.mk A770
                                clear A770
                                by_cases c78 : t273 < 0
                                · rw [if_pos c78] at H
                                  have c78b0 : decide (t273 < 0) = true := decide_eq_true c78
                                  clear c78
                                  obtain rfl := Option.some.inj H
                                  cases ht
                                · rw [if_neg c78] at H
                                  have c78b0 : decide (t273 < 0) = false := decide_eq_false c78
                                  clear c78
                                  by_cases c79 : t273 = t259
                                  · rw [if_pos c79] at H
                                    have c79b0 : (t273 == t259) = true := beq_iff_eq.mpr c79
                                    have c79b1 : (t273 != t259) = false := bne_eq_false_iff_eq.mpr c79
                                    clear c79
                                    obtain rfl := Option.some.inj H
                                    go_wp2_with (first | ((with_reducible refine gate_callee (f := 30) rfl ?_); refine goesL_ (some 116) rfl rfl Try.func30 (by kernel_rfl) rfl #[.slice Ao63 t260.length co63, .int .i64 1] rfl (by (try simp only [List.map_toArray, List.map_cons, List.map_nil]); first | done | (go_simp; done) | rfl | (simp only [List.length_drop, List.length_take]; rfl)) ?_; (with_reducible refine (laws_heldInt64S.calls kj61 _ _ t260 1 t273 _ ?side1 ?side2 A77.out).mono ?_); (case side1 => repeat (first | exact (Kd.R_reads' HO_12.out).2.2 | (with_reducible refine Kd.C_alloc ?_ _) | (with_reducible refine Kd.C_drewN ?_ _) | (with_reducible refine Kd.C_drew ?_))); (case side2 => exact (Kd.R_reads' HO_12.out).2.1); rintro e w' ⟨rfl, ⟨nd, rfl⟩⟩; refine ⟨_, rfl, ?_⟩))
                                    go_ret
                                    exact ⟨by first | rfl | (simp [errW_none, errW_some] <;> rfl) | (simp [*, errW_none, errW_some] <;> rfl), by repeat (first | (with_reducible first | exact HB.out | apply below_alloc | apply pw_below_drewN | apply below_drew1) | exact HB.out)⟩
                                  · rw [if_neg c79] at H
                                    have c79b0 : (t273 == t259) = false := beq_eq_false_iff_ne.mpr c79
                                    have c79b1 : (t273 != t259) = true := bne_iff_ne.mpr c79
                                    obtain rfl := Option.some.inj H
                                    cases ht
                        · rw [if_neg c58] at H
                          have c58b0 : (t261 == t259) = false := beq_eq_false_iff_ne.mpr c58
                          have c58b1 : (t261 != t259) = true := bne_iff_ne.mpr c58
                          obtain rfl := Option.some.inj H
                          cases ht
              · replace c36 := Bool.eq_false_iff.mpr c36
                subst c36
                have H1 : (some false) = some r := by rw [if_neg (show ¬ (false = true) by decide)] at H; exact H
                clear H
                have H := H1
                clear H1
                obtain rfl := Option.some.inj H
                cases ht
            · replace c33 := Bool.eq_false_iff.mpr c33
              subst c33
              have H1 : (some false) = some r := by rw [if_neg (show ¬ (false = true) by decide)] at H; exact H
              clear H
              have H := H1
              clear H1
              obtain rfl := Option.some.inj H
              cases ht

end Go.Proofs.Ytofcgkcpkngocaa.MCanPayFrom
