-- by a program of this session, for this claim
import Derived.Test.YtofcgkcpkngocaaMPassDebtx0
import Derived.Test.YtofcgkcpkngocaaMPassDebtx1
import Derived.Test.YtofcgkcpkngocaaMPassDebtx2
import Derived.Test.YtofcgkcpkngocaaMPassDebtx5
import Derived.Test.YtofcgkcpkngocaaMPassDebtx8
namespace Go.Proofs.Ytofcgkcpkngocaa.MPassDebt
open Go.RowKit Go.Proofs.YtofcgkcpkngocaaW.PrintWords Go.Proofs.YtofcgkcpkngocaaW.PrintLast Go.Proofs.YtofcgkcpkngocaaW.PrintMore
attribute [local go_sem] max2_int min2_int max_two min_two max_three min_three max_four min_four   -- for this text's walks alone
set_option linter.unusedVariables false
set_option linter.unusedSimpArgs false

/-! ### laws_FnExactPassDebt: function 10 -/
mutual
def laws_FnExactPassDebt.j0 : Nat → Int → List (S67) → Int → Int → Int → Int → List (S65) → Int → List (S65) → List (S65) → Int → Bool → Option (Bool)
  | 0, _, _, _, _, _, _, _, _, _, _, _, _ => none
  | k + 1, x0, x1, x2, x3, x4, x5, x14, x15, x16, x17, x18, x60 => if x60 = true then (some false) else ((laws_toDebtS.f k x1).bind fun t230 => ((laws_eqDebtS.f k x16 t230).bind fun t233 => (if t233 = true then ((laws_markDebtS.f k x16 1).bind fun bt234 => (if bt234.1 < 0 then (laws_FnExactPassDebt.j1 k x0 x1 x2 x3 x4 x5 x14 x15 x17 true) else ((laws_eqDebtS.f k x17 x14).bind fun t236 => (if t236 = true then (laws_FnExactPassDebt.j1 k x0 x1 x2 x3 x4 x5 x14 x15 x17 (x18 != x15)) else (laws_FnExactPassDebt.j1 k x0 x1 x2 x3 x4 x5 x14 x15 x17 true))))) else (some false))))
def laws_FnExactPassDebt.j1 : Nat → Int → List (S67) → Int → Int → Int → Int → List (S65) → Int → List (S65) → Bool → Option (Bool)
  | 0, _, _, _, _, _, _, _, _, _, _ => none
  | k + 1, x0, x1, x2, x3, x4, x5, x14, x15, x17, x81 => if x81 = true then (some false) else ((laws_markDebtS.f k x17 1).bind fun bt237 => ((laws_heldDebtS.f k bt237.2 1).bind fun t239 => (if t239 < 0 then (some false) else (if t239 = bt237.1 then ((laws_toDebtS.f k x1).bind fun t240 => ((impl_PassDebt.f k x0 t240 x2 x3 x4 x5).bind fun bt243 => ((laws_eqDebtS.f k bt243.1 x14).bind fun t247 => (if t247 = true then (laws_FnExactPassDebt.j2 k bt237.2 bt237.1 (bt243.2 != x15)) else (laws_FnExactPassDebt.j2 k bt237.2 bt237.1 true))))) else (some false)))))
def laws_FnExactPassDebt.j2 : Nat → List (S65) → Int → Bool → Option (Bool)
  | 0, _, _, _ => none
  | k + 1, x17, x20, x112 => if x112 = true then (some false) else ((laws_heldDebtS.f k x17 1).bind fun t248 => (if t248 < 0 then (some false) else (if t248 = x20 then (some true) else (some false))))
end
def laws_FnExactPassDebt.f (k : Nat) (a0 : Int) (l1 : List (S67)) (a2 : Int) (a3 : Int) (a4 : Int) (a5 : Int) : Option (Bool) := (laws_szDebtS.f l1 1048576).bind fun t214 => (if t214 < 0 then (some true) else ((laws_toDebtS.f k l1).bind fun t215 => ((spec_PassDebt.f k a0 t215 a2 a3 a4 a5).bind fun bt218 => ((laws_toDebtS.f k l1).bind fun t222 => ((impl_PassDebt.f k a0 t222 a2 a3 a4 a5).bind fun bt225 => ((laws_eqDebtS.f k bt225.1 bt218.1).bind fun t229 => (if t229 = true then (laws_FnExactPassDebt.j0 k a0 l1 a2 a3 a4 a5 bt218.1 bt218.2 t222 bt225.1 bt225.2 (bt225.2 != bt218.2)) else (laws_FnExactPassDebt.j0 k a0 l1 a2 a3 a4 a5 bt218.1 bt218.2 t222 bt225.1 bt225.2 true))))))))
theorem laws_FnExactPassDebt.mono_l : ∀ k, (∀ y0 y1 y2 y3 y4 y5 y6 y7 y8 y9 y10 y11, LeO (laws_FnExactPassDebt.j0 k y0 y1 y2 y3 y4 y5 y6 y7 y8 y9 y10 y11) (laws_FnExactPassDebt.j0 (k + 1) y0 y1 y2 y3 y4 y5 y6 y7 y8 y9 y10 y11)) ∧ (∀ y0 y1 y2 y3 y4 y5 y6 y7 y8 y9, LeO (laws_FnExactPassDebt.j1 k y0 y1 y2 y3 y4 y5 y6 y7 y8 y9) (laws_FnExactPassDebt.j1 (k + 1) y0 y1 y2 y3 y4 y5 y6 y7 y8 y9)) ∧ (∀ y0 y1 y2, LeO (laws_FnExactPassDebt.j2 k y0 y1 y2) (laws_FnExactPassDebt.j2 (k + 1) y0 y1 y2))
  | 0 => ⟨fun _ _ _ _ _ _ _ _ _ _ _ _ r h => by simp [laws_FnExactPassDebt.j0] at h, fun _ _ _ _ _ _ _ _ _ _ r h => by simp [laws_FnExactPassDebt.j1] at h, fun _ _ _ r h => by simp [laws_FnExactPassDebt.j2] at h⟩
  | k + 1 => by
    obtain ⟨ih0, ih1, ih2⟩ := laws_FnExactPassDebt.mono_l k
    refine ⟨?_, ?_, ?_⟩
    · intro y0 y1 y2 y3 y4 y5 y6 y7 y8 y9 y10 y11
      unfold laws_FnExactPassDebt.j0
      repeat' first
      | (with_reducible exact ih0 _ _ _ _ _ _ _ _ _ _ _ _)
      | (with_reducible exact ih1 _ _ _ _ _ _ _ _ _ _)
      | (with_reducible exact ih2 _ _ _)
      | (with_reducible exact impl_PassDebt.mono _ _ _ _ _ _ _)
      | (with_reducible exact laws_eqDebtS.mono _ _ _)
      | (with_reducible exact laws_heldDebtS.mono _ _ _)
      | (with_reducible exact laws_markDebtS.mono _ _ _)
      | (with_reducible exact laws_toDebtS.mono _ _)
      | (with_reducible exact spec_PassDebt.mono _ _ _ _ _ _ _)
      | (with_reducible exact LeO.refl _)
      | (with_reducible exact LeO.none _)
      | (with_reducible refine LeO.ite ?_ ?_)
      | (with_reducible refine LeO.bind ?_ (fun _ => ?_))
      | exact ih0 _ _ _ _ _ _ _ _ _ _ _ _
      | exact ih1 _ _ _ _ _ _ _ _ _ _
      | exact ih2 _ _ _
      | exact impl_PassDebt.mono _ _ _ _ _ _ _
      | exact laws_eqDebtS.mono _ _ _
      | exact laws_heldDebtS.mono _ _ _
      | exact laws_markDebtS.mono _ _ _
      | exact laws_toDebtS.mono _ _
      | exact spec_PassDebt.mono _ _ _ _ _ _ _
      | exact LeO.none _
      | refine LeO.ite ?_ ?_
      | refine LeO.bind ?_ (fun _ => ?_)
    · intro y0 y1 y2 y3 y4 y5 y6 y7 y8 y9
      unfold laws_FnExactPassDebt.j1
      repeat' first
      | (with_reducible exact ih0 _ _ _ _ _ _ _ _ _ _ _ _)
      | (with_reducible exact ih1 _ _ _ _ _ _ _ _ _ _)
      | (with_reducible exact ih2 _ _ _)
      | (with_reducible exact impl_PassDebt.mono _ _ _ _ _ _ _)
      | (with_reducible exact laws_eqDebtS.mono _ _ _)
      | (with_reducible exact laws_heldDebtS.mono _ _ _)
      | (with_reducible exact laws_markDebtS.mono _ _ _)
      | (with_reducible exact laws_toDebtS.mono _ _)
      | (with_reducible exact spec_PassDebt.mono _ _ _ _ _ _ _)
      | (with_reducible exact LeO.refl _)
      | (with_reducible exact LeO.none _)
      | (with_reducible refine LeO.ite ?_ ?_)
      | (with_reducible refine LeO.bind ?_ (fun _ => ?_))
      | exact ih0 _ _ _ _ _ _ _ _ _ _ _ _
      | exact ih1 _ _ _ _ _ _ _ _ _ _
      | exact ih2 _ _ _
      | exact impl_PassDebt.mono _ _ _ _ _ _ _
      | exact laws_eqDebtS.mono _ _ _
      | exact laws_heldDebtS.mono _ _ _
      | exact laws_markDebtS.mono _ _ _
      | exact laws_toDebtS.mono _ _
      | exact spec_PassDebt.mono _ _ _ _ _ _ _
      | exact LeO.none _
      | refine LeO.ite ?_ ?_
      | refine LeO.bind ?_ (fun _ => ?_)
    · intro y0 y1 y2
      unfold laws_FnExactPassDebt.j2
      repeat' first
      | (with_reducible exact ih0 _ _ _ _ _ _ _ _ _ _ _ _)
      | (with_reducible exact ih1 _ _ _ _ _ _ _ _ _ _)
      | (with_reducible exact ih2 _ _ _)
      | (with_reducible exact impl_PassDebt.mono _ _ _ _ _ _ _)
      | (with_reducible exact laws_eqDebtS.mono _ _ _)
      | (with_reducible exact laws_heldDebtS.mono _ _ _)
      | (with_reducible exact laws_markDebtS.mono _ _ _)
      | (with_reducible exact laws_toDebtS.mono _ _)
      | (with_reducible exact spec_PassDebt.mono _ _ _ _ _ _ _)
      | (with_reducible exact LeO.refl _)
      | (with_reducible exact LeO.none _)
      | (with_reducible refine LeO.ite ?_ ?_)
      | (with_reducible refine LeO.bind ?_ (fun _ => ?_))
      | exact ih0 _ _ _ _ _ _ _ _ _ _ _ _
      | exact ih1 _ _ _ _ _ _ _ _ _ _
      | exact ih2 _ _ _
      | exact impl_PassDebt.mono _ _ _ _ _ _ _
      | exact laws_eqDebtS.mono _ _ _
      | exact laws_heldDebtS.mono _ _ _
      | exact laws_markDebtS.mono _ _ _
      | exact laws_toDebtS.mono _ _
      | exact spec_PassDebt.mono _ _ _ _ _ _ _
      | exact LeO.none _
      | refine LeO.ite ?_ ?_
      | refine LeO.bind ?_ (fun _ => ?_)
theorem laws_FnExactPassDebt.mono : ∀ a0 a1 a2 a3 a4 a5 k, LeO (laws_FnExactPassDebt.f k a0 a1 a2 a3 a4 a5) (laws_FnExactPassDebt.f (k + 1) a0 a1 a2 a3 a4 a5) := by
  intro a0 a1 a2 a3 a4 a5 k
  obtain ⟨ih0, ih1, ih2⟩ := laws_FnExactPassDebt.mono_l k
  unfold laws_FnExactPassDebt.f
  repeat' first
      | (with_reducible exact ih0 _ _ _ _ _ _ _ _ _ _ _ _)
      | (with_reducible exact ih1 _ _ _ _ _ _ _ _ _ _)
      | (with_reducible exact ih2 _ _ _)
      | (with_reducible exact impl_PassDebt.mono _ _ _ _ _ _ _)
      | (with_reducible exact laws_eqDebtS.mono _ _ _)
      | (with_reducible exact laws_heldDebtS.mono _ _ _)
      | (with_reducible exact laws_markDebtS.mono _ _ _)
      | (with_reducible exact laws_toDebtS.mono _ _)
      | (with_reducible exact spec_PassDebt.mono _ _ _ _ _ _ _)
      | (with_reducible exact LeO.refl _)
      | (with_reducible exact LeO.none _)
      | (with_reducible refine LeO.ite ?_ ?_)
      | (with_reducible refine LeO.bind ?_ (fun _ => ?_))
      | exact ih0 _ _ _ _ _ _ _ _ _ _ _ _
      | exact ih1 _ _ _ _ _ _ _ _ _ _
      | exact ih2 _ _ _
      | exact impl_PassDebt.mono _ _ _ _ _ _ _
      | exact laws_eqDebtS.mono _ _ _
      | exact laws_heldDebtS.mono _ _ _
      | exact laws_markDebtS.mono _ _ _
      | exact laws_toDebtS.mono _ _
      | exact spec_PassDebt.mono _ _ _ _ _ _ _
      | exact LeO.none _
      | refine LeO.ite ?_ ?_
      | refine LeO.bind ?_ (fun _ => ?_)
set_option maxHeartbeats 8000000 in
set_option maxRecDepth 100000 in
theorem laws_FnExactPassDebt.calls (k : Nat) (a0 : Int) (A1 : Option Addr) (c1 : Nat) (l1 : List (S67)) (a2 : Int) (a3 : Int) (a4 : Int) (a5 : Int) (r : Bool) (w : World) (hr1 : Kd.C k67 w A1 l1.length l1) (hc1 : l1.length ≤ c1) (h : laws_FnExactPassDebt.f k a0 l1 a2 a3 a4 a5 = some r) (ht : r = true) :
    Calls Try.prog 10 #[.int .i64 a0, .slice A1 l1.length c1, .int .i64 a2, .int .i64 a3, .int .i64 a4, .int .i64 a5] w fun e w' => e = .returned (.bool r) ∧ Below w.heap.size w w' := by
  have HR1 := Aside0.mk hr1
  have HC1 := Aside0.mk hc1
  clear hr1 hc1
  have HB := Aside0.mk (Below.refl w.heap.size w)
  have H : ((laws_szDebtS.f l1 1048576).bind fun t214 => (if t214 < 0 then (some true) else ((laws_toDebtS.f k l1).bind fun t215 => ((spec_PassDebt.f k a0 t215 a2 a3 a4 a5).bind fun bt218 => ((laws_toDebtS.f k l1).bind fun t222 => ((impl_PassDebt.f k a0 t222 a2 a3 a4 a5).bind fun bt225 => ((laws_eqDebtS.f k bt225.1 bt218.1).bind fun t229 => (if t229 = true then (laws_FnExactPassDebt.j0 k a0 l1 a2 a3 a4 a5 bt218.1 bt218.2 t222 bt225.1 bt225.2 (bt225.2 != bt218.2)) else (laws_FnExactPassDebt.j0 k a0 l1 a2 a3 a4 a5 bt218.1 bt218.2 t222 bt225.1 bt225.2 true))))))))) = some r := h
  clear h
  replace H := Option.bind_eq_some_iff.mp H
  obtain ⟨t214, A70, H⟩ := H
  replace H : (if t214 < 0 then (some true) else ((laws_toDebtS.f k l1).bind fun t215 => ((spec_PassDebt.f k a0 t215 a2 a3 a4 a5).bind fun bt218 => ((laws_toDebtS.f k l1).bind fun t222 => ((impl_PassDebt.f k a0 t222 a2 a3 a4 a5).bind fun bt225 => ((laws_eqDebtS.f k bt225.1 bt218.1).bind fun t229 => (if t229 = true then (laws_FnExactPassDebt.j0 k a0 l1 a2 a3 a4 a5 bt218.1 bt218.2 t222 bt225.1 bt225.2 (bt225.2 != bt218.2)) else (laws_FnExactPassDebt.j0 k a0 l1 a2 a3 a4 a5 bt218.1 bt218.2 t222 bt225.1 bt225.2 true)))))))) = some r := H
  have A7 := Aside0.mk A70
  clear A70
  by_cases c8 : t214 < 0
  · rw [if_pos c8] at H
    have c8b0 : decide (t214 < 0) = true := decide_eq_true c8
    clear c8
    obtain rfl := Option.some.inj H
    go_enter Try.func10, Try.ntmps10
    go_wp2_with (first | ((with_reducible refine gate_callee (f := 15) rfl ?_); refine goesL_ (some 26) rfl rfl Try.func15 (by kernel_rfl) rfl #[.slice A1 l1.length c1, .int .i64 1048576] rfl (by (try simp only [List.map_toArray, List.map_cons, List.map_nil]); first | done | (go_simp; done) | rfl | (simp only [List.length_drop, List.length_take]; rfl)) ?_; (with_reducible refine (laws_szDebtS.calls _ _ l1 1048576 t214 _ ?side1 ?side2 A7.out).mono ?_); (case side1 => repeat (first | exact HR1.out | (with_reducible refine Kd.C_alloc ?_ _) | (with_reducible refine Kd.C_drewN ?_ _) | (with_reducible refine Kd.C_drew ?_))); (case side2 => exact HC1.out); rintro e w' ⟨rfl, ⟨nd, rfl⟩⟩; refine ⟨_, rfl, ?_⟩))
    go_ret
    exact ⟨by first | rfl | (simp [errW_none, errW_some] <;> rfl) | (simp [*, errW_none, errW_some] <;> rfl), by repeat (first | (with_reducible first | exact HB.out | apply below_alloc | apply pw_below_drewN | apply below_drew1) | exact HB.out)⟩
  · rw [if_neg c8] at H
    have c8b0 : decide (t214 < 0) = false := decide_eq_false c8
    clear c8
    replace H := Option.bind_eq_some_iff.mp H
    obtain ⟨t215, A90, H⟩ := H
    replace H : ((spec_PassDebt.f k a0 t215 a2 a3 a4 a5).bind fun bt218 => ((laws_toDebtS.f k l1).bind fun t222 => ((impl_PassDebt.f k a0 t222 a2 a3 a4 a5).bind fun bt225 => ((laws_eqDebtS.f k bt225.1 bt218.1).bind fun t229 => (if t229 = true then (laws_FnExactPassDebt.j0 k a0 l1 a2 a3 a4 a5 bt218.1 bt218.2 t222 bt225.1 bt225.2 (bt225.2 != bt218.2)) else (laws_FnExactPassDebt.j0 k a0 l1 a2 a3 a4 a5 bt218.1 bt218.2 t222 bt225.1 bt225.2 true)))))) = some r := H
    have A9 := Aside0.mk A90
    clear A90
    replace H := Option.bind_eq_some_iff.mp H
    obtain ⟨⟨t218, t219⟩, A100, H⟩ := H
    replace H : ((laws_toDebtS.f k l1).bind fun t222 => ((impl_PassDebt.f k a0 t222 a2 a3 a4 a5).bind fun bt225 => ((laws_eqDebtS.f k bt225.1 t218).bind fun t229 => (if t229 = true then (laws_FnExactPassDebt.j0 k a0 l1 a2 a3 a4 a5 t218 t219 t222 bt225.1 bt225.2 (bt225.2 != t219)) else (laws_FnExactPassDebt.j0 k a0 l1 a2 a3 a4 a5 t218 t219 t222 bt225.1 bt225.2 true))))) = some r := H
    have A10 := Aside0.mk A100
    clear A100
    replace H := Option.bind_eq_some_iff.mp H
    obtain ⟨t222, A110, H⟩ := H
    replace H : ((impl_PassDebt.f k a0 t222 a2 a3 a4 a5).bind fun bt225 => ((laws_eqDebtS.f k bt225.1 t218).bind fun t229 => (if t229 = true then (laws_FnExactPassDebt.j0 k a0 l1 a2 a3 a4 a5 t218 t219 t222 bt225.1 bt225.2 (bt225.2 != t219)) else (laws_FnExactPassDebt.j0 k a0 l1 a2 a3 a4 a5 t218 t219 t222 bt225.1 bt225.2 true)))) = some r := H
    have A11 := Aside0.mk A110
    clear A110
    replace H := Option.bind_eq_some_iff.mp H
    obtain ⟨⟨t225, t226⟩, A120, H⟩ := H
    replace H : ((laws_eqDebtS.f k t225 t218).bind fun t229 => (if t229 = true then (laws_FnExactPassDebt.j0 k a0 l1 a2 a3 a4 a5 t218 t219 t222 t225 t226 (t226 != t219)) else (laws_FnExactPassDebt.j0 k a0 l1 a2 a3 a4 a5 t218 t219 t222 t225 t226 true))) = some r := H
    have A12 := Aside0.mk A120
    clear A120
    have HC13 := Aside0.mk H
    clear H
    go_enter Try.func10, Try.ntmps10
    go_upto_region 8 with (first | ((with_reducible refine gate_callee (f := 15) rfl ?_); refine goesL_ (some 26) rfl rfl Try.func15 (by kernel_rfl) rfl #[.slice A1 l1.length c1, .int .i64 1048576] rfl (by (try simp only [List.map_toArray, List.map_cons, List.map_nil]); first | done | (go_simp; done) | rfl | (simp only [List.length_drop, List.length_take]; rfl)) ?_; (with_reducible refine (laws_szDebtS.calls _ _ l1 1048576 t214 _ ?side1 ?side2 A7.out).mono ?_); (case side1 => repeat (first | exact HR1.out | (with_reducible refine Kd.C_alloc ?_ _) | (with_reducible refine Kd.C_drewN ?_ _) | (with_reducible refine Kd.C_drew ?_))); (case side2 => exact HC1.out); rintro e w' ⟨rfl, ⟨nd, rfl⟩⟩; refine ⟨_, rfl, ?_⟩) | ((with_reducible refine gate_callee (f := 17) rfl ?_); refine goesL_ (some 32) rfl rfl Try.func17 (by kernel_rfl) rfl #[.slice A1 l1.length c1] rfl (by (try simp only [List.map_toArray, List.map_cons, List.map_nil]); first | done | (go_simp; done) | rfl | (simp only [List.length_drop, List.length_take]; rfl)) ?_; (with_reducible refine (laws_toDebtS.calls k _ _ l1 t215 _ ?side1 ?side2 A9.out).mono ?_); (case side1 => repeat (first | exact HR1.out | (with_reducible refine Kd.C_alloc ?_ _) | (with_reducible refine Kd.C_drewN ?_ _) | (with_reducible refine Kd.C_drew ?_))); (case side2 => exact HC1.out); rintro e w14 ⟨v216, rfl, ho0, hb⟩; refine ⟨_, rfl, ?_⟩; have n0_ := Aside0.mk (Kd.R_lower ho0 (below_size (by repeat (first | (with_reducible first | exact HB.out | apply below_alloc | apply pw_below_drewN | apply below_drew1) | exact HB.out)))); have n1_ := Aside0.mk (below_step (by repeat (first | (with_reducible first | exact HB.out | apply below_alloc | apply pw_below_drewN | apply below_drew1) | exact HB.out)) hb); clear HB; have HO217 := n0_; have HB := n1_; clear n0_ n1_; (try clear hb); (try clear hb2); (try clear hk); (try clear hi); (try clear ho0); obtain ⟨Ao15, co15, eo15⟩ := Kd.R_slice HO217.out; subst eo15) | ((with_reducible refine gate_callee (f := 38) rfl ?_); refine goesL_ (some 37) rfl rfl Try.func38 (by kernel_rfl) rfl #[.int .i64 a0, .slice Ao15 t215.length co15, .int .i64 a2, .int .i64 a3, .int .i64 a4, .int .i64 a5] rfl (by (try simp only [List.map_toArray, List.map_cons, List.map_nil]); first | done | (go_simp; done) | rfl | (simp only [List.length_drop, List.length_take]; rfl)) ?_; (with_reducible refine (spec_PassDebt.calls k a0 _ _ t215 a2 a3 a4 a5 t218 t219 _ ?side1 ?side2 A10.out).mono ?_); (case side1 => repeat (first | exact (Kd.R_reads' HO217.out).2.2 | (with_reducible refine Kd.C_alloc ?_ _) | (with_reducible refine Kd.C_drewN ?_ _) | (with_reducible refine Kd.C_drew ?_))); (case side2 => exact (Kd.R_reads' HO217.out).2.1); rintro e w16 ⟨v220, rfl, ho0, hb⟩; refine ⟨_, rfl, ?_⟩; have n0_ := Aside0.mk (Kd.R_elder' (by (with_reducible repeat (first | apply Kd.R_alloc | apply Kd.R_drewN | apply Kd.R_drew)); exact HO217.out) (Kd.R_base ho0) hb); have n1_ := Aside0.mk (Kd.R_lower (Kd.R_new' ho0 (Kd.R_lt (by (with_reducible repeat (first | apply Kd.R_alloc | apply Kd.R_drewN | apply Kd.R_drew)); exact HO217.out))) (below_size (by repeat (first | (with_reducible first | exact HB.out | apply below_alloc | apply pw_below_drewN | apply below_drew1) | exact HB.out)))); have n2_ := Aside0.mk (below_step (by repeat (first | (with_reducible first | exact HB.out | apply below_alloc | apply pw_below_drewN | apply below_drew1) | exact HB.out)) hb); clear HO217; clear HB; have HO217 := n0_; have HO221 := n1_; have HB := n2_; clear n0_ n1_ n2_; (try clear hb); (try clear hb2); (try clear hk); (try clear hi); (try clear ho0)) | ((with_reducible refine gate_callee (f := 17) rfl ?_); refine goesL_ (some 41) rfl rfl Try.func17 (by kernel_rfl) rfl #[.slice A1 l1.length c1] rfl (by (try simp only [List.map_toArray, List.map_cons, List.map_nil]); first | done | (go_simp; done) | rfl | (simp only [List.length_drop, List.length_take]; rfl)) ?_; (with_reducible refine (laws_toDebtS.calls k _ _ l1 t222 _ ?side1 ?side2 A11.out).mono ?_); (case side1 => repeat (first | exact (Kd.C_below HR1.out HB.out) | (with_reducible refine Kd.C_alloc ?_ _) | (with_reducible refine Kd.C_drewN ?_ _) | (with_reducible refine Kd.C_drew ?_))); (case side2 => exact HC1.out); rintro e w17 ⟨v223, rfl, ho0, hb⟩; refine ⟨_, rfl, ?_⟩; have n0_ := Aside0.mk (Kd.R_elder' (by (with_reducible repeat (first | apply Kd.R_alloc | apply Kd.R_drewN | apply Kd.R_drew)); exact HO217.out) (Kd.R_base ho0) hb); have n1_ := Aside0.mk (Kd.R_elder' (by (with_reducible repeat (first | apply Kd.R_alloc | apply Kd.R_drewN | apply Kd.R_drew)); exact HO221.out) (Kd.R_base ho0) hb); have n2_ := Aside0.mk (Kd.R_lower (Kd.R_new' (Kd.R_new' ho0 (Kd.R_lt (by (with_reducible repeat (first | apply Kd.R_alloc | apply Kd.R_drewN | apply Kd.R_drew)); exact HO217.out))) (Kd.R_lt (by (with_reducible repeat (first | apply Kd.R_alloc | apply Kd.R_drewN | apply Kd.R_drew)); exact HO221.out))) (below_size (by repeat (first | (with_reducible first | exact HB.out | apply below_alloc | apply pw_below_drewN | apply below_drew1) | exact HB.out)))); have n3_ := Aside0.mk (below_step (by repeat (first | (with_reducible first | exact HB.out | apply below_alloc | apply pw_below_drewN | apply below_drew1) | exact HB.out)) hb); clear HO217; clear HO221; clear HB; have HO217 := n0_; have HO221 := n1_; have HO224 := n2_; have HB := n3_; clear n0_ n1_ n2_ n3_; (try clear hb); (try clear hb2); (try clear hk); (try clear hi); (try clear ho0); obtain ⟨Ao18, co18, eo18⟩ := Kd.R_slice HO224.out; subst eo18) | ((with_reducible refine gate_callee (f := 39) rfl ?_); refine goesL_ (some 49) rfl rfl Try.func39 (by kernel_rfl) rfl #[.int .i64 a0, .slice Ao18 t222.length co18, .int .i64 a2, .int .i64 a3, .int .i64 a4, .int .i64 a5] rfl (by (try simp only [List.map_toArray, List.map_cons, List.map_nil]); first | done | (go_simp; done) | rfl | (simp only [List.length_drop, List.length_take]; rfl)) ?_; (with_reducible refine (impl_PassDebt.calls k a0 _ _ t222 a2 a3 a4 a5 t225 t226 _ ?side1 ?side2 A12.out).mono ?_); (case side1 => repeat (first | exact (Kd.R_reads' HO224.out).2.2 | (with_reducible refine Kd.C_alloc ?_ _) | (with_reducible refine Kd.C_drewN ?_ _) | (with_reducible refine Kd.C_drew ?_))); (case side2 => exact (Kd.R_reads' HO224.out).2.1); rintro e w19 ⟨v227, rfl, ho0, hb⟩; refine ⟨_, rfl, ?_⟩; have n0_ := Aside0.mk (Kd.R_elder' (by (with_reducible repeat (first | apply Kd.R_alloc | apply Kd.R_drewN | apply Kd.R_drew)); exact HO217.out) (Kd.R_base ho0) hb); have n1_ := Aside0.mk (Kd.R_elder' (by (with_reducible repeat (first | apply Kd.R_alloc | apply Kd.R_drewN | apply Kd.R_drew)); exact HO221.out) (Kd.R_base ho0) hb); have n2_ := Aside0.mk (Kd.R_elder' (by (with_reducible repeat (first | apply Kd.R_alloc | apply Kd.R_drewN | apply Kd.R_drew)); exact HO224.out) (Kd.R_base ho0) hb); have n3_ := Aside0.mk (Kd.R_lower (Kd.R_new' (Kd.R_new' (Kd.R_new' ho0 (Kd.R_lt (by (with_reducible repeat (first | apply Kd.R_alloc | apply Kd.R_drewN | apply Kd.R_drew)); exact HO217.out))) (Kd.R_lt (by (with_reducible repeat (first | apply Kd.R_alloc | apply Kd.R_drewN | apply Kd.R_drew)); exact HO221.out))) (Kd.R_lt (by (with_reducible repeat (first | apply Kd.R_alloc | apply Kd.R_drewN | apply Kd.R_drew)); exact HO224.out))) (below_size (by repeat (first | (with_reducible first | exact HB.out | apply below_alloc | apply pw_below_drewN | apply below_drew1) | exact HB.out)))); have n4_ := Aside0.mk (below_step (by repeat (first | (with_reducible first | exact HB.out | apply below_alloc | apply pw_below_drewN | apply below_drew1) | exact HB.out)) hb); clear HO217; clear HO221; clear HO224; clear HB; have HO217 := n0_; have HO221 := n1_; have HO224 := n2_; have HO228 := n3_; have HB := n4_; clear n0_ n1_ n2_ n3_ n4_; (try clear hb); (try clear hb2); (try clear hk); (try clear hi); (try clear ho0)))
    (try simp only [Act.put, List.setIfInBounds_toArray, List.set_cons_zero, List.set_cons_succ])
    go_cut [60] (fun v60 wc => ∃ (kq : Nat) (x60_12 : Bool), v60 = .bool x60_12 ∧ Aside0 (laws_FnExactPassDebt.j0 kq a0 l1 a2 a3 a4 a5 t218 t219 t222 t225 t226 x60_12 = some r) ∧ Aside0 (kq ≤ k) ∧ Aside0 (Kd.R k65 65 wc w.heap.size (fun k_ => some k_ ≠ ((.slice Ao18 t222.length co18) : Value).ownBlock ∧ some k_ ≠ (v227 : Value).ownBlock) v220 t218) ∧ Aside0 (Kd.R k65 65 wc w.heap.size (fun k_ => some k_ ≠ (v220 : Value).ownBlock ∧ some k_ ≠ (v227 : Value).ownBlock) (.slice Ao18 t222.length co18) t222) ∧ Aside0 (Kd.R k65 65 wc w.heap.size (fun k_ => some k_ ≠ (v220 : Value).ownBlock ∧ some k_ ≠ ((.slice Ao18 t222.length co18) : Value).ownBlock) v227 t225) ∧ Aside0 (Below w.heap.size w wc))
    case first =>
      have H := HC13.out
      clear HC13
      replace H := Option.bind_eq_some_iff.mp H
      obtain ⟨t229, A200, H⟩ := H
      replace H : (if t229 = true then (laws_FnExactPassDebt.j0 k a0 l1 a2 a3 a4 a5 t218 t219 t222 t225 t226 (t226 != t219)) else (laws_FnExactPassDebt.j0 k a0 l1 a2 a3 a4 a5 t218 t219 t222 t225 t226 true)) = some r := H
      have A20 := Aside0.mk A200
      clear A200
      by_cases c21 : t229 = true
      · subst c21
        have H1 : (laws_FnExactPassDebt.j0 k a0 l1 a2 a3 a4 a5 t218 t219 t222 t225 t226 (t226 != t219)) = some r := by rw [if_pos rfl] at H; exact H
        clear H
        have H := H1
        clear H1
        have H' := Aside0.mk H
        clear H
        obtain ⟨Ao22, co22, eo22⟩ := Kd.R_slice HO228.out
        subst eo22
        obtain ⟨Ao23, co23, eo23⟩ := Kd.R_slice HO221.out
        subst eo23
        go_wp2_with (first | ((with_reducible refine gate_callee (f := 19) rfl ?_); refine goesL_ (some 54) rfl rfl Try.func19 (by kernel_rfl) rfl #[.slice Ao22 t225.length co22, .slice Ao23 t218.length co23] rfl (by (try simp only [List.map_toArray, List.map_cons, List.map_nil]); first | done | (go_simp; done) | rfl | (simp only [List.length_drop, List.length_take]; rfl)) ?_; (with_reducible refine (laws_eqDebtS.calls k _ _ t225 _ _ t218 true _ ?side1 ?side2 ?side3 ?side4 A20.out).mono ?_); (case side1 => repeat (first | exact (Kd.R_reads' HO228.out).2.2 | (with_reducible refine Kd.C_alloc ?_ _) | (with_reducible refine Kd.C_drewN ?_ _) | (with_reducible refine Kd.C_drew ?_))); (case side2 => exact (Kd.R_reads' HO228.out).2.1); (case side3 => repeat (first | exact (Kd.R_reads' HO221.out).2.2 | (with_reducible refine Kd.C_alloc ?_ _) | (with_reducible refine Kd.C_drewN ?_ _) | (with_reducible refine Kd.C_drew ?_))); (case side4 => exact (Kd.R_reads' HO221.out).2.1); rintro e w24 ⟨rfl, hb⟩; refine ⟨_, rfl, ?_⟩; have n0_ := Aside0.mk (Kd.R_below (by (with_reducible repeat (first | apply Kd.R_alloc | apply Kd.R_drewN | apply Kd.R_drew)); exact HO217.out) hb); have n1_ := Aside0.mk (Kd.R_below (by (with_reducible repeat (first | apply Kd.R_alloc | apply Kd.R_drewN | apply Kd.R_drew)); exact HO221.out) hb); have n2_ := Aside0.mk (Kd.R_below (by (with_reducible repeat (first | apply Kd.R_alloc | apply Kd.R_drewN | apply Kd.R_drew)); exact HO224.out) hb); have n3_ := Aside0.mk (Kd.R_below (by (with_reducible repeat (first | apply Kd.R_alloc | apply Kd.R_drewN | apply Kd.R_drew)); exact HO228.out) hb); have n4_ := Aside0.mk (below_step (by repeat (first | (with_reducible first | exact HB.out | apply below_alloc | apply pw_below_drewN | apply below_drew1) | exact HB.out)) hb); clear HO217; clear HO221; clear HO224; clear HO228; clear HB; have HO217 := n0_; have HO221 := n1_; have HO224 := n2_; have HO228 := n3_; have HB := n4_; clear n0_ n1_ n2_ n3_ n4_; (try clear hb); (try clear hb2); (try clear hk); (try clear hi)))
        go_meet
        case rel => exact ⟨_, ((t226 != t219)), (by first | rfl | (simp; done) | (simp [*]; done)), H', ⟨by first | omega | exact Nat.le_refl _⟩, ⟨by (with_reducible repeat (first | apply Kd.R_alloc | apply Kd.R_drewN | apply Kd.R_drew)); exact Kd.R_mono HO221.out (fun _ hk => ⟨hk.1.2, hk.2⟩)⟩, ⟨by (with_reducible repeat (first | apply Kd.R_alloc | apply Kd.R_drewN | apply Kd.R_drew)); exact Kd.R_mono HO224.out (fun _ hk => ⟨hk.1.2, hk.2⟩)⟩, ⟨by (with_reducible repeat (first | apply Kd.R_alloc | apply Kd.R_drewN | apply Kd.R_drew)); exact Kd.R_mono HO228.out (fun _ hk => ⟨hk.1.2, hk.2⟩)⟩, ⟨by repeat (first | (with_reducible first | exact HB.out | apply below_alloc | apply pw_below_drewN | apply below_drew1) | exact HB.out)⟩⟩
      · replace c21 := Bool.eq_false_iff.mpr c21
        subst c21
        have H1 : (laws_FnExactPassDebt.j0 k a0 l1 a2 a3 a4 a5 t218 t219 t222 t225 t226 true) = some r := by rw [if_neg (show ¬ (false = true) by decide)] at H; exact H
        clear H
        have H := H1
        clear H1
        have H' := Aside0.mk H
        clear H
        obtain ⟨Ao25, co25, eo25⟩ := Kd.R_slice HO228.out
        subst eo25
        obtain ⟨Ao26, co26, eo26⟩ := Kd.R_slice HO221.out
        subst eo26
        go_wp2_with (first | ((with_reducible refine gate_callee (f := 19) rfl ?_); refine goesL_ (some 54) rfl rfl Try.func19 (by kernel_rfl) rfl #[.slice Ao25 t225.length co25, .slice Ao26 t218.length co26] rfl (by (try simp only [List.map_toArray, List.map_cons, List.map_nil]); first | done | (go_simp; done) | rfl | (simp only [List.length_drop, List.length_take]; rfl)) ?_; (with_reducible refine (laws_eqDebtS.calls k _ _ t225 _ _ t218 false _ ?side1 ?side2 ?side3 ?side4 A20.out).mono ?_); (case side1 => repeat (first | exact (Kd.R_reads' HO228.out).2.2 | (with_reducible refine Kd.C_alloc ?_ _) | (with_reducible refine Kd.C_drewN ?_ _) | (with_reducible refine Kd.C_drew ?_))); (case side2 => exact (Kd.R_reads' HO228.out).2.1); (case side3 => repeat (first | exact (Kd.R_reads' HO221.out).2.2 | (with_reducible refine Kd.C_alloc ?_ _) | (with_reducible refine Kd.C_drewN ?_ _) | (with_reducible refine Kd.C_drew ?_))); (case side4 => exact (Kd.R_reads' HO221.out).2.1); rintro e w27 ⟨rfl, hb⟩; refine ⟨_, rfl, ?_⟩; have n0_ := Aside0.mk (Kd.R_below (by (with_reducible repeat (first | apply Kd.R_alloc | apply Kd.R_drewN | apply Kd.R_drew)); exact HO217.out) hb); have n1_ := Aside0.mk (Kd.R_below (by (with_reducible repeat (first | apply Kd.R_alloc | apply Kd.R_drewN | apply Kd.R_drew)); exact HO221.out) hb); have n2_ := Aside0.mk (Kd.R_below (by (with_reducible repeat (first | apply Kd.R_alloc | apply Kd.R_drewN | apply Kd.R_drew)); exact HO224.out) hb); have n3_ := Aside0.mk (Kd.R_below (by (with_reducible repeat (first | apply Kd.R_alloc | apply Kd.R_drewN | apply Kd.R_drew)); exact HO228.out) hb); have n4_ := Aside0.mk (below_step (by repeat (first | (with_reducible first | exact HB.out | apply below_alloc | apply pw_below_drewN | apply below_drew1) | exact HB.out)) hb); clear HO217; clear HO221; clear HO224; clear HO228; clear HB; have HO217 := n0_; have HO221 := n1_; have HO224 := n2_; have HO228 := n3_; have HB := n4_; clear n0_ n1_ n2_ n3_ n4_; (try clear hb); (try clear hb2); (try clear hk); (try clear hi)))
        go_meet
        case rel => exact ⟨_, (true), (by first | rfl | (simp; done) | (simp [*]; done)), H', ⟨by first | omega | exact Nat.le_refl _⟩, ⟨by (with_reducible repeat (first | apply Kd.R_alloc | apply Kd.R_drewN | apply Kd.R_drew)); exact Kd.R_mono HO221.out (fun _ hk => ⟨hk.1.2, hk.2⟩)⟩, ⟨by (with_reducible repeat (first | apply Kd.R_alloc | apply Kd.R_drewN | apply Kd.R_drew)); exact Kd.R_mono HO224.out (fun _ hk => ⟨hk.1.2, hk.2⟩)⟩, ⟨by (with_reducible repeat (first | apply Kd.R_alloc | apply Kd.R_drewN | apply Kd.R_drew)); exact Kd.R_mono HO228.out (fun _ hk => ⟨hk.1.2, hk.2⟩)⟩, ⟨by repeat (first | (with_reducible first | exact HB.out | apply below_alloc | apply pw_below_drewN | apply below_drew1) | exact HB.out)⟩⟩
    case rest =>
      clear HC13
      try clear c1
      try clear c2
      try clear p2
      try clear c3
      try clear c8
      try clear c8b0
      try clear c10
      try clear c15
      try clear c17
      try clear c19
      try clear c21
      obtain ⟨kq, x60_12, rfl, HA, HJ12, HO_14, HO_16, HO_17, HB⟩ := hcut
      cases kq with
      | zero => exact absurd HA.out (by simp [laws_FnExactPassDebt.j0])
      | succ kj12 =>
        have H := HA.out
        clear HA
        simp only [laws_FnExactPassDebt.j0] at H
        by_cases c28 : x60_12 = true
        · subst c28
          have H1 : (some false) = some r := by rw [if_pos rfl] at H; exact H
          clear H
          have H := H1
          clear H1
          obtain rfl := Option.some.inj H
          cases ht
        · replace c28 := Bool.eq_false_iff.mpr c28
          subst c28
          have H1 : ((laws_toDebtS.f kj12 l1).bind fun t230 => ((laws_eqDebtS.f kj12 t222 t230).bind fun t233 => (if t233 = true then ((laws_markDebtS.f kj12 t222 1).bind fun bt234 => (if bt234.1 < 0 then (laws_FnExactPassDebt.j1 kj12 a0 l1 a2 a3 a4 a5 t218 t219 t225 true) else ((laws_eqDebtS.f kj12 t225 t218).bind fun t236 => (if t236 = true then (laws_FnExactPassDebt.j1 kj12 a0 l1 a2 a3 a4 a5 t218 t219 t225 (t226 != t219)) else (laws_FnExactPassDebt.j1 kj12 a0 l1 a2 a3 a4 a5 t218 t219 t225 true))))) else (some false)))) = some r := by rw [if_neg (show ¬ (false = true) by decide)] at H; exact H
          clear H
          have H := H1
          clear H1
          replace H := Option.bind_eq_some_iff.mp H
          obtain ⟨t230, A290, H⟩ := H
          replace H : ((laws_eqDebtS.f kj12 t222 t230).bind fun t233 => (if t233 = true then ((laws_markDebtS.f kj12 t222 1).bind fun bt234 => (if bt234.1 < 0 then (laws_FnExactPassDebt.j1 kj12 a0 l1 a2 a3 a4 a5 t218 t219 t225 true) else ((laws_eqDebtS.f kj12 t225 t218).bind fun t236 => (if t236 = true then (laws_FnExactPassDebt.j1 kj12 a0 l1 a2 a3 a4 a5 t218 t219 t225 (t226 != t219)) else (laws_FnExactPassDebt.j1 kj12 a0 l1 a2 a3 a4 a5 t218 t219 t225 true))))) else (some false))) = some r := H
          have A29 := Aside0.mk A290
          clear A290
          replace H := Option.bind_eq_some_iff.mp H
          obtain ⟨t233, A300, H⟩ := H
          replace H : (if t233 = true then ((laws_markDebtS.f kj12 t222 1).bind fun bt234 => (if bt234.1 < 0 then (laws_FnExactPassDebt.j1 kj12 a0 l1 a2 a3 a4 a5 t218 t219 t225 true) else ((laws_eqDebtS.f kj12 t225 t218).bind fun t236 => (if t236 = true then (laws_FnExactPassDebt.j1 kj12 a0 l1 a2 a3 a4 a5 t218 t219 t225 (t226 != t219)) else (laws_FnExactPassDebt.j1 kj12 a0 l1 a2 a3 a4 a5 t218 t219 t225 true))))) else (some false)) = some r := H
          have A30 := Aside0.mk A300
          clear A300
          by_cases c31 : t233 = true
          · subst c31
            have H1 : ((laws_markDebtS.f kj12 t222 1).bind fun bt234 => (if bt234.1 < 0 then (laws_FnExactPassDebt.j1 kj12 a0 l1 a2 a3 a4 a5 t218 t219 t225 true) else ((laws_eqDebtS.f kj12 t225 t218).bind fun t236 => (if t236 = true then (laws_FnExactPassDebt.j1 kj12 a0 l1 a2 a3 a4 a5 t218 t219 t225 (t226 != t219)) else (laws_FnExactPassDebt.j1 kj12 a0 l1 a2 a3 a4 a5 t218 t219 t225 true))))) = some r := by rw [if_pos rfl] at H; exact H
            clear H
            have H := H1
            clear H1
            replace H := Option.bind_eq_some_iff.mp H
            obtain ⟨⟨t234, t235⟩, A320, H⟩ := H
            replace H : (if t234 < 0 then (laws_FnExactPassDebt.j1 kj12 a0 l1 a2 a3 a4 a5 t218 t219 t225 true) else ((laws_eqDebtS.f kj12 t225 t218).bind fun t236 => (if t236 = true then (laws_FnExactPassDebt.j1 kj12 a0 l1 a2 a3 a4 a5 t218 t219 t225 (t226 != t219)) else (laws_FnExactPassDebt.j1 kj12 a0 l1 a2 a3 a4 a5 t218 t219 t225 true)))) = some r := H
            have A32 := Aside0.mk A320
            clear A320
            have HC33 := Aside0.mk H
            clear H
            go_upto_region 14 with (first | ((with_reducible refine gate_callee (f := 17) rfl ?_); refine goesL_ (some 63) rfl rfl Try.func17 (by kernel_rfl) rfl #[.slice A1 l1.length c1] rfl (by (try simp only [List.map_toArray, List.map_cons, List.map_nil]); first | done | (go_simp; done) | rfl | (simp only [List.length_drop, List.length_take]; rfl)) ?_; (with_reducible refine (laws_toDebtS.calls kj12 _ _ l1 t230 _ ?side1 ?side2 A29.out).mono ?_); (case side1 => repeat (first | exact (Kd.C_below HR1.out HB.out) | (with_reducible refine Kd.C_alloc ?_ _) | (with_reducible refine Kd.C_drewN ?_ _) | (with_reducible refine Kd.C_drew ?_))); (case side2 => exact HC1.out); rintro e w34 ⟨v231, rfl, ho0, hb⟩; refine ⟨_, rfl, ?_⟩; have n0_ := Aside0.mk (Kd.R_elder' (by (with_reducible repeat (first | apply Kd.R_alloc | apply Kd.R_drewN | apply Kd.R_drew)); exact HO_14.out) (Kd.R_base ho0) hb); have n1_ := Aside0.mk (Kd.R_elder' (by (with_reducible repeat (first | apply Kd.R_alloc | apply Kd.R_drewN | apply Kd.R_drew)); exact HO_16.out) (Kd.R_base ho0) hb); have n2_ := Aside0.mk (Kd.R_elder' (by (with_reducible repeat (first | apply Kd.R_alloc | apply Kd.R_drewN | apply Kd.R_drew)); exact HO_17.out) (Kd.R_base ho0) hb); have n3_ := Aside0.mk (Kd.R_lower (Kd.R_new' (Kd.R_new' (Kd.R_new' ho0 (Kd.R_lt (by (with_reducible repeat (first | apply Kd.R_alloc | apply Kd.R_drewN | apply Kd.R_drew)); exact HO_14.out))) (Kd.R_lt (by (with_reducible repeat (first | apply Kd.R_alloc | apply Kd.R_drewN | apply Kd.R_drew)); exact HO_16.out))) (Kd.R_lt (by (with_reducible repeat (first | apply Kd.R_alloc | apply Kd.R_drewN | apply Kd.R_drew)); exact HO_17.out))) (below_size (by repeat (first | (with_reducible first | exact HB.out | apply below_alloc | apply pw_below_drewN | apply below_drew1) | exact HB.out)))); have n4_ := Aside0.mk (below_step (by repeat (first | (with_reducible first | exact HB.out | apply below_alloc | apply pw_below_drewN | apply below_drew1) | exact HB.out)) hb); clear HO_14; clear HO_16; clear HO_17; clear HB; have HO_14 := n0_; have HO_16 := n1_; have HO_17 := n2_; have HO232 := n3_; have HB := n4_; clear n0_ n1_ n2_ n3_ n4_; (try clear hb); (try clear hb2); (try clear hk); (try clear hi); (try clear ho0); obtain ⟨Ao35, co35, eo35⟩ := Kd.R_slice HO232.out; subst eo35) | ((with_reducible refine gate_callee (f := 19) rfl ?_); refine goesL_ (some 64) rfl rfl Try.func19 (by kernel_rfl) rfl #[.slice Ao18 t222.length co18, .slice Ao35 t230.length co35] rfl (by (try simp only [List.map_toArray, List.map_cons, List.map_nil]); first | done | (go_simp; done) | rfl | (simp only [List.length_drop, List.length_take]; rfl)) ?_; (with_reducible refine (laws_eqDebtS.calls kj12 _ _ t222 _ _ t230 true _ ?side1 ?side2 ?side3 ?side4 A30.out).mono ?_); (case side1 => repeat (first | exact (Kd.R_reads' HO_16.out).2.2 | (with_reducible refine Kd.C_alloc ?_ _) | (with_reducible refine Kd.C_drewN ?_ _) | (with_reducible refine Kd.C_drew ?_))); (case side2 => exact (Kd.R_reads' HO_16.out).2.1); (case side3 => repeat (first | exact (Kd.R_reads' HO232.out).2.2 | (with_reducible refine Kd.C_alloc ?_ _) | (with_reducible refine Kd.C_drewN ?_ _) | (with_reducible refine Kd.C_drew ?_))); (case side4 => exact (Kd.R_reads' HO232.out).2.1); rintro e w36 ⟨rfl, hb⟩; refine ⟨_, rfl, ?_⟩; have n0_ := Aside0.mk (Kd.R_below (by (with_reducible repeat (first | apply Kd.R_alloc | apply Kd.R_drewN | apply Kd.R_drew)); exact HO_14.out) hb); have n1_ := Aside0.mk (Kd.R_below (by (with_reducible repeat (first | apply Kd.R_alloc | apply Kd.R_drewN | apply Kd.R_drew)); exact HO_16.out) hb); have n2_ := Aside0.mk (Kd.R_below (by (with_reducible repeat (first | apply Kd.R_alloc | apply Kd.R_drewN | apply Kd.R_drew)); exact HO_17.out) hb); have n3_ := Aside0.mk (Kd.R_below (by (with_reducible repeat (first | apply Kd.R_alloc | apply Kd.R_drewN | apply Kd.R_drew)); exact HO232.out) hb); have n4_ := Aside0.mk (below_step (by repeat (first | (with_reducible first | exact HB.out | apply below_alloc | apply pw_below_drewN | apply below_drew1) | exact HB.out)) hb); clear HO_14; clear HO_16; clear HO_17; clear HO232; clear HB; have HO_14 := n0_; have HO_16 := n1_; have HO_17 := n2_; have HO232 := n3_; have HB := n4_; clear n0_ n1_ n2_ n3_ n4_; (try clear hb); (try clear hb2); (try clear hk); (try clear hi)) | ((with_reducible refine gate_callee (f := 22) rfl ?_); refine goesL_ (some 68) rfl rfl Try.func22 (by kernel_rfl) rfl #[.slice Ao18 t222.length co18, .int .i64 1] rfl (by (try simp only [List.map_toArray, List.map_cons, List.map_nil]); first | done | (go_simp; done) | rfl | (simp only [List.length_drop, List.length_take]; rfl)) ?_; (with_reducible refine (laws_markDebtS.calls kj12 (fun k_ => some k_ = (.slice Ao18 t222.length co18 : Value).ownBlock) (.slice Ao18 t222.length co18) t222 1 t234 t235 w _ ?side1 ?side2 A32.out).mono ?_); (case side1 => repeat (first | (with_reducible first | exact HB.out | apply below_alloc | apply pw_below_drewN | apply below_drew1) | exact HB.out)); (case side2 => exact Kd.R_tight rfl HO_16.out); rintro e w37 ⟨rfl, hy0, hb, hkp⟩; refine ⟨_, rfl, ?_⟩; have n0_ := Aside0.mk (Kd.R_mono (ok' := fun k_ => some k_ ≠ (.slice Ao18 t222.length co18 : Value).ownBlock ∧ some k_ ≠ (v227 : Value).ownBlock ∧ some k_ ≠ (.slice Ao35 t230.length co35 : Value).ownBlock) (Kd.R_keptB (HO_14.out) hkp (fun k_ hk_ hs_ => (hk_.1.1) hs_)) (fun k_ hk_ => ⟨hk_.1.1.1, hk_.1.1.2, hk_.1.2⟩)); have n1_ := Aside0.mk (Kd.R_reok rfl hy0 (fun k_ e_ => HO_16.out.1 k_ e_)); have n2_ := Aside0.mk (Kd.R_mono (ok' := fun k_ => some k_ ≠ (v220 : Value).ownBlock ∧ some k_ ≠ (.slice Ao18 t222.length co18 : Value).ownBlock ∧ some k_ ≠ (.slice Ao35 t230.length co35 : Value).ownBlock) (Kd.R_keptB (HO_17.out) hkp (fun k_ hk_ hs_ => (hk_.1.2) hs_)) (fun k_ hk_ => ⟨hk_.1.1.1, hk_.1.1.2, hk_.1.2⟩)); have n3_ := Aside0.mk (Kd.R_mono (ok' := fun k_ => some k_ ≠ (v220 : Value).ownBlock ∧ some k_ ≠ (.slice Ao18 t222.length co18 : Value).ownBlock ∧ some k_ ≠ (v227 : Value).ownBlock) (Kd.R_keptB (HO232.out) hkp (fun k_ hk_ hs_ => (hk_.1.2) hs_)) (fun k_ hk_ => ⟨hk_.1.1.1.2, hk_.1.1.2, hk_.1.2⟩)); have n4_ := Aside0.mk (hb); clear HO_14; clear HO_16; clear HO_17; clear HO232; clear HB; have HO_14 := n0_; have HO_16 := n1_; have HO_17 := n2_; have HO232 := n3_; have HB := n4_; clear n0_ n1_ n2_ n3_ n4_; (try clear hb); (try clear hkp); (try clear hy0)))
            (try simp only [Act.put, List.setIfInBounds_toArray, List.set_cons_zero, List.set_cons_succ])
            go_cut [81] (fun v81 wc => ∃ (kq : Nat) (x81_32 : Bool), v81 = .bool x81_32 ∧ Aside0 (laws_FnExactPassDebt.j1 kq a0 l1 a2 a3 a4 a5 t218 t219 t225 x81_32 = some r) ∧ Aside0 (kq ≤ kj12) ∧ Aside0 (Kd.R k65 65 wc w.heap.size (fun k_ => some k_ ≠ (v227 : Value).ownBlock) v220 t218) ∧ Aside0 (Kd.R k65 65 wc w.heap.size (fun k_ => some k_ ≠ (v220 : Value).ownBlock) v227 t225) ∧ Aside0 (Below w.heap.size w wc))
            case first =>
              have H := HC33.out
              clear HC33
              by_cases c38 : t234 < 0
              · rw [if_pos c38] at H
                have c38b0 : decide (t234 < 0) = true := decide_eq_true c38
                clear c38
                (first | rw [c38b0] | (simp only [i64_w, i32_w]; rw [c38b0]) | skip)
                have H' := Aside0.mk H
                clear H
                go_wp2
                go_meet
                case rel => exact ⟨_, (true), (by first | rfl | (simp; done) | (simp [*]; done)), H', ⟨by have := HJ12.out; first | omega | exact Nat.le_refl _⟩, ⟨by (with_reducible repeat (first | apply Kd.R_alloc | apply Kd.R_drewN | apply Kd.R_drew)); exact Kd.R_mono HO_14.out (fun _ hk => hk.2.1)⟩, ⟨by (with_reducible repeat (first | apply Kd.R_alloc | apply Kd.R_drewN | apply Kd.R_drew)); exact Kd.R_mono HO_17.out (fun _ hk => hk.1)⟩, ⟨by repeat (first | (with_reducible first | exact HB.out | apply below_alloc | apply pw_below_drewN | apply below_drew1) | exact HB.out)⟩⟩
              · rw [if_neg c38] at H
                have c38b0 : decide (t234 < 0) = false := decide_eq_false c38
                clear c38
                (first | rw [c38b0] | (simp only [i64_w, i32_w]; rw [c38b0]) | skip)
                replace H := Option.bind_eq_some_iff.mp H
                obtain ⟨t236, A390, H⟩ := H
                replace H : (if t236 = true then (laws_FnExactPassDebt.j1 kj12 a0 l1 a2 a3 a4 a5 t218 t219 t225 (t226 != t219)) else (laws_FnExactPassDebt.j1 kj12 a0 l1 a2 a3 a4 a5 t218 t219 t225 true)) = some r := H
                have A39 := Aside0.mk A390
                clear A390
                by_cases c40 : t236 = true
                · subst c40
                  have H1 : (laws_FnExactPassDebt.j1 kj12 a0 l1 a2 a3 a4 a5 t218 t219 t225 (t226 != t219)) = some r := by rw [if_pos rfl] at H; exact H
                  clear H
                  have H := H1
                  clear H1
                  have H' := Aside0.mk H
                  clear H
                  obtain ⟨Ao41, co41, eo41⟩ := Kd.R_slice HO_17.out
                  subst eo41
                  obtain ⟨Ao42, co42, eo42⟩ := Kd.R_slice HO_14.out
                  subst eo42
                  go_wp2_with (first | (go_at_call 19; (with_reducible refine (laws_eqDebtS.calls kj12 _ _ t225 _ _ t218 true _ ?side1 ?side2 ?side3 ?side4 A39.out).mono ?_); (case side1 => repeat (first | exact (Kd.R_reads' HO_17.out).2.2 | (with_reducible refine Kd.C_alloc ?_ _) | (with_reducible refine Kd.C_drewN ?_ _) | (with_reducible refine Kd.C_drew ?_))); (case side2 => exact (Kd.R_reads' HO_17.out).2.1); (case side3 => repeat (first | exact (Kd.R_reads' HO_14.out).2.2 | (with_reducible refine Kd.C_alloc ?_ _) | (with_reducible refine Kd.C_drewN ?_ _) | (with_reducible refine Kd.C_drew ?_))); (case side4 => exact (Kd.R_reads' HO_14.out).2.1); rintro e w43 ⟨rfl, hb⟩; have n0_ := Aside0.mk (Kd.R_below (by (with_reducible repeat (first | apply Kd.R_alloc | apply Kd.R_drewN | apply Kd.R_drew)); exact HO_14.out) hb); have n1_ := Aside0.mk (Kd.R_below (by (with_reducible repeat (first | apply Kd.R_alloc | apply Kd.R_drewN | apply Kd.R_drew)); exact HO_16.out) hb); have n2_ := Aside0.mk (Kd.R_below (by (with_reducible repeat (first | apply Kd.R_alloc | apply Kd.R_drewN | apply Kd.R_drew)); exact HO_17.out) hb); have n3_ := Aside0.mk (Kd.R_below (by (with_reducible repeat (first | apply Kd.R_alloc | apply Kd.R_drewN | apply Kd.R_drew)); exact HO232.out) hb); have n4_ := Aside0.mk (below_step (by repeat (first | (with_reducible first | exact HB.out | apply below_alloc | apply pw_below_drewN | apply below_drew1) | exact HB.out)) hb); clear HO_14; clear HO_16; clear HO_17; clear HO232; clear HB; have HO_14 := n0_; have HO_16 := n1_; have HO_17 := n2_; have HO232 := n3_; have HB := n4_; clear n0_ n1_ n2_ n3_ n4_; (try clear hb); (try clear hb2); (try clear hk); (try clear hi)))
                  go_meet
                  case rel => exact ⟨_, ((t226 != t219)), (by first | rfl | (simp; done) | (simp [*]; done)), H', ⟨by have := HJ12.out; first | omega | exact Nat.le_refl _⟩, ⟨by (with_reducible repeat (first | apply Kd.R_alloc | apply Kd.R_drewN | apply Kd.R_drew)); exact Kd.R_mono HO_14.out (fun _ hk => hk.2.1)⟩, ⟨by (with_reducible repeat (first | apply Kd.R_alloc | apply Kd.R_drewN | apply Kd.R_drew)); exact Kd.R_mono HO_17.out (fun _ hk => hk.1)⟩, ⟨by repeat (first | (with_reducible first | exact HB.out | apply below_alloc | apply pw_below_drewN | apply below_drew1) | exact HB.out)⟩⟩
                · replace c40 := Bool.eq_false_iff.mpr c40
                  subst c40
                  have H1 : (laws_FnExactPassDebt.j1 kj12 a0 l1 a2 a3 a4 a5 t218 t219 t225 true) = some r := by rw [if_neg (show ¬ (false = true) by decide)] at H; exact H
                  clear H
                  have H := H1
                  clear H1
                  have H' := Aside0.mk H
                  clear H
                  obtain ⟨Ao44, co44, eo44⟩ := Kd.R_slice HO_17.out
                  subst eo44
                  obtain ⟨Ao45, co45, eo45⟩ := Kd.R_slice HO_14.out
                  subst eo45
                  go_wp2_with (first | (go_at_call 19; (with_reducible refine (laws_eqDebtS.calls kj12 _ _ t225 _ _ t218 false _ ?side1 ?side2 ?side3 ?side4 A39.out).mono ?_); (case side1 => repeat (first | exact (Kd.R_reads' HO_17.out).2.2 | (with_reducible refine Kd.C_alloc ?_ _) | (with_reducible refine Kd.C_drewN ?_ _) | (with_reducible refine Kd.C_drew ?_))); (case side2 => exact (Kd.R_reads' HO_17.out).2.1); (case side3 => repeat (first | exact (Kd.R_reads' HO_14.out).2.2 | (with_reducible refine Kd.C_alloc ?_ _) | (with_reducible refine Kd.C_drewN ?_ _) | (with_reducible refine Kd.C_drew ?_))); (case side4 => exact (Kd.R_reads' HO_14.out).2.1); rintro e w46 ⟨rfl, hb⟩; have n0_ := Aside0.mk (Kd.R_below (by (with_reducible repeat (first | apply Kd.R_alloc | apply Kd.R_drewN | apply Kd.R_drew)); exact HO_14.out) hb); have n1_ := Aside0.mk (Kd.R_below (by (with_reducible repeat (first | apply Kd.R_alloc | apply Kd.R_drewN | apply Kd.R_drew)); exact HO_16.out) hb); have n2_ := Aside0.mk (Kd.R_below (by (with_reducible repeat (first | apply Kd.R_alloc | apply Kd.R_drewN | apply Kd.R_drew)); exact HO_17.out) hb); have n3_ := Aside0.mk (Kd.R_below (by (with_reducible repeat (first | apply Kd.R_alloc | apply Kd.R_drewN | apply Kd.R_drew)); exact HO232.out) hb); have n4_ := Aside0.mk (below_step (by repeat (first | (with_reducible first | exact HB.out | apply below_alloc | apply pw_below_drewN | apply below_drew1) | exact HB.out)) hb); clear HO_14; clear HO_16; clear HO_17; clear HO232; clear HB; have HO_14 := n0_; have HO_16 := n1_; have HO_17 := n2_; have HO232 := n3_; have HB := n4_; clear n0_ n1_ n2_ n3_ n4_; (try clear hb); (try clear hb2); (try clear hk); (try clear hi)))
                  go_meet
                  case rel => exact ⟨_, (true), (by first | rfl | (simp; done) | (simp [*]; done)), H', ⟨by have := HJ12.out; first | omega | exact Nat.le_refl _⟩, ⟨by (with_reducible repeat (first | apply Kd.R_alloc | apply Kd.R_drewN | apply Kd.R_drew)); exact Kd.R_mono HO_14.out (fun _ hk => hk.2.1)⟩, ⟨by (with_reducible repeat (first | apply Kd.R_alloc | apply Kd.R_drewN | apply Kd.R_drew)); exact Kd.R_mono HO_17.out (fun _ hk => hk.1)⟩, ⟨by repeat (first | (with_reducible first | exact HB.out | apply below_alloc | apply pw_below_drewN | apply below_drew1) | exact HB.out)⟩⟩
            case rest =>
              clear HC33
              try clear c1
              try clear c2
              try clear p2
              try clear c3
              try clear c4
              try clear c8
              try clear c8b0
              try clear c10
              try clear c15
              try clear c17
              try clear c19
              try clear c21
              try clear c22
              try clear c28
              try clear c31
              try clear c38
              try clear c38b0
              try clear c39
              try clear c40
              try clear p2
              obtain ⟨kq, x81_32, rfl, HA, HJ32, HO_14, HO_17, HB⟩ := hcut
              cases kq with
              | zero => exact absurd HA.out (by simp [laws_FnExactPassDebt.j1])
              | succ kj32 =>
                have H := HA.out
                clear HA
                simp only [laws_FnExactPassDebt.j1] at H
                by_cases c47 : x81_32 = true
                · subst c47
                  have H1 : (some false) = some r := by rw [if_pos rfl] at H; exact H
                  clear H
                  have H := H1
                  clear H1
                  obtain rfl := Option.some.inj H
                  cases ht
                · replace c47 := Bool.eq_false_iff.mpr c47
                  subst c47
                  have H1 : ((laws_markDebtS.f kj32 t225 1).bind fun bt237 => ((laws_heldDebtS.f kj32 bt237.2 1).bind fun t239 => (if t239 < 0 then (some false) else (if t239 = bt237.1 then ((laws_toDebtS.f kj32 l1).bind fun t240 => ((impl_PassDebt.f kj32 a0 t240 a2 a3 a4 a5).bind fun bt243 => ((laws_eqDebtS.f kj32 bt243.1 t218).bind fun t247 => (if t247 = true then (laws_FnExactPassDebt.j2 kj32 bt237.2 bt237.1 (bt243.2 != t219)) else (laws_FnExactPassDebt.j2 kj32 bt237.2 bt237.1 true))))) else (some false))))) = some r := by rw [if_neg (show ¬ (false = true) by decide)] at H; exact H
                  clear H
                  have H := H1
                  clear H1
                  replace H := Option.bind_eq_some_iff.mp H
                  obtain ⟨⟨t237, t238⟩, A480, H⟩ := H
                  replace H : ((laws_heldDebtS.f kj32 t238 1).bind fun t239 => (if t239 < 0 then (some false) else (if t239 = t237 then ((laws_toDebtS.f kj32 l1).bind fun t240 => ((impl_PassDebt.f kj32 a0 t240 a2 a3 a4 a5).bind fun bt243 => ((laws_eqDebtS.f kj32 bt243.1 t218).bind fun t247 => (if t247 = true then (laws_FnExactPassDebt.j2 kj32 t238 t237 (bt243.2 != t219)) else (laws_FnExactPassDebt.j2 kj32 t238 t237 true))))) else (some false)))) = some r := H
                  have A48 := Aside0.mk A480
                  clear A480
                  replace H := Option.bind_eq_some_iff.mp H
                  obtain ⟨t239, A490, H⟩ := H
                  replace H : (if t239 < 0 then (some false) else (if t239 = t237 then ((laws_toDebtS.f kj32 l1).bind fun t240 => ((impl_PassDebt.f kj32 a0 t240 a2 a3 a4 a5).bind fun bt243 => ((laws_eqDebtS.f kj32 bt243.1 t218).bind fun t247 => (if t247 = true then (laws_FnExactPassDebt.j2 kj32 t238 t237 (bt243.2 != t219)) else (laws_FnExactPassDebt.j2 kj32 t238 t237 true))))) else (some false))) = some r := H
                  have A49 := Aside0.mk A490
                  clear A490
                  by_cases c50 : t239 < 0
                  · rw [if_pos c50] at H
                    have c50b0 : decide (t239 < 0) = true := decide_eq_true c50
                    clear c50
                    obtain rfl := Option.some.inj H
                    cases ht
                  · rw [if_neg c50] at H
                    have c50b0 : decide (t239 < 0) = false := decide_eq_false c50
                    clear c50
                    by_cases c51 : t239 = t237
                    · rw [if_pos c51] at H
                      have c51b0 : (t239 == t237) = true := beq_iff_eq.mpr c51
                      have c51b1 : (t239 != t237) = false := bne_eq_false_iff_eq.mpr c51
                      clear c51
                      replace H := Option.bind_eq_some_iff.mp H
                      obtain ⟨t240, A520, H⟩ := H
                      replace H : ((impl_PassDebt.f kj32 a0 t240 a2 a3 a4 a5).bind fun bt243 => ((laws_eqDebtS.f kj32 bt243.1 t218).bind fun t247 => (if t247 = true then (laws_FnExactPassDebt.j2 kj32 t238 t237 (bt243.2 != t219)) else (laws_FnExactPassDebt.j2 kj32 t238 t237 true)))) = some r := H
                      have A52 := Aside0.mk A520
                      clear A520
                      replace H := Option.bind_eq_some_iff.mp H
                      obtain ⟨⟨t243, t244⟩, A530, H⟩ := H
                      replace H : ((laws_eqDebtS.f kj32 t243 t218).bind fun t247 => (if t247 = true then (laws_FnExactPassDebt.j2 kj32 t238 t237 (t244 != t219)) else (laws_FnExactPassDebt.j2 kj32 t238 t237 true))) = some r := H
                      have A53 := Aside0.mk A530
                      clear A530
                      have HC54 := Aside0.mk H
                      clear H
                      obtain ⟨Ao55, co55, eo55⟩ := Kd.R_slice HO_17.out
                      subst eo55
                      go_upto_region 25 with (first | ((with_reducible refine gate_callee (f := 22) rfl ?_); refine goesL_ (some 84) rfl rfl Try.func22 (by kernel_rfl) rfl #[.slice Ao55 t225.length co55, .int .i64 1] rfl (by (try simp only [List.map_toArray, List.map_cons, List.map_nil]); first | done | (go_simp; done) | rfl | (simp only [List.length_drop, List.length_take]; rfl)) ?_; (with_reducible refine (laws_markDebtS.calls kj32 (fun k_ => some k_ = (.slice Ao55 t225.length co55 : Value).ownBlock) (.slice Ao55 t225.length co55) t225 1 t237 t238 w _ ?side1 ?side2 A48.out).mono ?_); (case side1 => repeat (first | (with_reducible first | exact HB.out | apply below_alloc | apply pw_below_drewN | apply below_drew1) | exact HB.out)); (case side2 => exact Kd.R_tight rfl HO_17.out); rintro e w56 ⟨rfl, hy0, hb, hkp⟩; refine ⟨_, rfl, ?_⟩; have n0_ := Aside0.mk (Kd.R_mono (ok' := fun k_ => some k_ ≠ (.slice Ao55 t225.length co55 : Value).ownBlock) (Kd.R_keptB (HO_14.out) hkp (fun k_ hk_ hs_ => (hk_) hs_)) (fun k_ hk_ => hk_.1)); have n1_ := Aside0.mk (Kd.R_reok rfl hy0 (fun k_ e_ => HO_17.out.1 k_ e_)); have n2_ := Aside0.mk (hb); clear HO_14; clear HO_17; clear HB; have HO_14 := n0_; have HO_17 := n1_; have HB := n2_; clear n0_ n1_ n2_; (try clear hb); (try clear hkp); (try clear hy0)) | ((with_reducible refine gate_callee (f := 23) rfl ?_); refine goesL_ (some 87) rfl rfl Try.func23 (by kernel_rfl) rfl #[.slice Ao55 t238.length co55, .int .i64 1] rfl (by (try simp only [List.map_toArray, List.map_cons, List.map_nil]); first | done | (rw [show t238.length = t225.length from (Kd.R_reads' HO_17.out).1.symm] <;> rfl) | (go_simp; done) | rfl | (simp only [List.length_drop, List.length_take]; rfl)) ?_; (with_reducible refine (laws_heldDebtS.calls kj32 _ _ t238 1 t239 _ ?side1 ?side2 A49.out).mono ?_); (case side1 => repeat (first | exact (Kd.R_reads' HO_17.out).2.2 | (with_reducible refine Kd.C_alloc ?_ _) | (with_reducible refine Kd.C_drewN ?_ _) | (with_reducible refine Kd.C_drew ?_))); (case side2 => rw [show t238.length = t225.length from (Kd.R_reads' HO_17.out).1.symm]; exact (Kd.R_reads' HO_17.out).2.1); rintro e w' ⟨rfl, ⟨nd, rfl⟩⟩; refine ⟨_, rfl, ?_⟩) | ((with_reducible refine gate_callee (f := 17) rfl ?_); refine goesL_ (some 96) rfl rfl Try.func17 (by kernel_rfl) rfl #[.slice A1 l1.length c1] rfl (by (try simp only [List.map_toArray, List.map_cons, List.map_nil]); first | done | (go_simp; done) | rfl | (simp only [List.length_drop, List.length_take]; rfl)) ?_; (with_reducible refine (laws_toDebtS.calls kj32 _ _ l1 t240 _ ?side1 ?side2 A52.out).mono ?_); (case side1 => repeat (first | exact (Kd.C_below HR1.out (by repeat (first | (with_reducible first | exact HB.out | apply below_alloc | apply pw_below_drewN | apply below_drew1) | exact HB.out))) | (with_reducible refine Kd.C_alloc ?_ _) | (with_reducible refine Kd.C_drewN ?_ _) | (with_reducible refine Kd.C_drew ?_))); (case side2 => exact HC1.out); rintro e w57 ⟨v241, rfl, ho0, hb⟩; refine ⟨_, rfl, ?_⟩; have n0_ := Aside0.mk (Kd.R_elder' (by (with_reducible repeat (first | apply Kd.R_alloc | apply Kd.R_drewN | apply Kd.R_drew)); exact HO_14.out) (Kd.R_base ho0) hb); have n1_ := Aside0.mk (Kd.R_elder' (by (with_reducible repeat (first | apply Kd.R_alloc | apply Kd.R_drewN | apply Kd.R_drew)); exact HO_17.out) (Kd.R_base ho0) hb); have n2_ := Aside0.mk (Kd.R_lower (Kd.R_new' (Kd.R_new' ho0 (Kd.R_lt (by (with_reducible repeat (first | apply Kd.R_alloc | apply Kd.R_drewN | apply Kd.R_drew)); exact HO_14.out))) (Kd.R_lt (by (with_reducible repeat (first | apply Kd.R_alloc | apply Kd.R_drewN | apply Kd.R_drew)); exact HO_17.out))) (below_size (by repeat (first | (with_reducible first | exact HB.out | apply below_alloc | apply pw_below_drewN | apply below_drew1) | exact HB.out)))); have n3_ := Aside0.mk (below_step (by repeat (first | (with_reducible first | exact HB.out | apply below_alloc | apply pw_below_drewN | apply below_drew1) | exact HB.out)) hb); clear HO_14; clear HO_17; clear HB; have HO_14 := n0_; have HO_17 := n1_; have HO242 := n2_; have HB := n3_; clear n0_ n1_ n2_ n3_; (try clear hb); (try clear hb2); (try clear hk); (try clear hi); (try clear ho0); obtain ⟨Ao58, co58, eo58⟩ := Kd.R_slice HO242.out; subst eo58) | ((with_reducible refine gate_callee (f := 39) rfl ?_); refine goesL_ (some 101) rfl rfl Try.func39 (by kernel_rfl) rfl #[.int .i64 a0, .slice Ao58 t240.length co58, .int .i64 a2, .int .i64 a3, .int .i64 a4, .int .i64 a5] rfl (by (try simp only [List.map_toArray, List.map_cons, List.map_nil]); first | done | (go_simp; done) | rfl | (simp only [List.length_drop, List.length_take]; rfl)) ?_; (with_reducible refine (impl_PassDebt.calls kj32 a0 _ _ t240 a2 a3 a4 a5 t243 t244 _ ?side1 ?side2 A53.out).mono ?_); (case side1 => repeat (first | exact (Kd.R_reads' HO242.out).2.2 | (with_reducible refine Kd.C_alloc ?_ _) | (with_reducible refine Kd.C_drewN ?_ _) | (with_reducible refine Kd.C_drew ?_))); (case side2 => exact (Kd.R_reads' HO242.out).2.1); rintro e w59 ⟨v245, rfl, ho0, hb⟩; refine ⟨_, rfl, ?_⟩; have n0_ := Aside0.mk (Kd.R_elder' (by (with_reducible repeat (first | apply Kd.R_alloc | apply Kd.R_drewN | apply Kd.R_drew)); exact HO_14.out) (Kd.R_base ho0) hb); have n1_ := Aside0.mk (Kd.R_elder' (by (with_reducible repeat (first | apply Kd.R_alloc | apply Kd.R_drewN | apply Kd.R_drew)); exact HO_17.out) (Kd.R_base ho0) hb); have n2_ := Aside0.mk (Kd.R_elder' (by (with_reducible repeat (first | apply Kd.R_alloc | apply Kd.R_drewN | apply Kd.R_drew)); exact HO242.out) (Kd.R_base ho0) hb); have n3_ := Aside0.mk (Kd.R_lower (Kd.R_new' (Kd.R_new' (Kd.R_new' ho0 (Kd.R_lt (by (with_reducible repeat (first | apply Kd.R_alloc | apply Kd.R_drewN | apply Kd.R_drew)); exact HO_14.out))) (Kd.R_lt (by (with_reducible repeat (first | apply Kd.R_alloc | apply Kd.R_drewN | apply Kd.R_drew)); exact HO_17.out))) (Kd.R_lt (by (with_reducible repeat (first | apply Kd.R_alloc | apply Kd.R_drewN | apply Kd.R_drew)); exact HO242.out))) (below_size (by repeat (first | (with_reducible first | exact HB.out | apply below_alloc | apply pw_below_drewN | apply below_drew1) | exact HB.out)))); have n4_ := Aside0.mk (below_step (by repeat (first | (with_reducible first | exact HB.out | apply below_alloc | apply pw_below_drewN | apply below_drew1) | exact HB.out)) hb); clear HO_14; clear HO_17; clear HO242; clear HB; have HO_14 := n0_; have HO_17 := n1_; have HO242 := n2_; have HO246 := n3_; have HB := n4_; clear n0_ n1_ n2_ n3_ n4_; (try clear hb); (try clear hb2); (try clear hk); (try clear hi); (try clear ho0)))
                      (try simp only [Act.put, List.setIfInBounds_toArray, List.set_cons_zero, List.set_cons_succ])
                      go_cut [112] (fun v112 wc => ∃ (kq : Nat) (x112_53 : Bool), v112 = .bool x112_53 ∧ Aside0 (laws_FnExactPassDebt.j2 kq t238 t237 x112_53 = some r) ∧ Aside0 (kq ≤ kj32) ∧ Aside0 (Kd.R k65 65 wc w.heap.size (fun _ => True) (.slice Ao55 t225.length co55) t238) ∧ Aside0 (Below w.heap.size w wc))
                      case first =>
                        have H := HC54.out
                        clear HC54
                        replace H := Option.bind_eq_some_iff.mp H
                        obtain ⟨t247, A600, H⟩ := H
                        replace H : (if t247 = true then (laws_FnExactPassDebt.j2 kj32 t238 t237 (t244 != t219)) else (laws_FnExactPassDebt.j2 kj32 t238 t237 true)) = some r := H
                        have A60 := Aside0.mk A600
                        clear A600
                        by_cases c61 : t247 = true
                        · subst c61
                          have H1 : (laws_FnExactPassDebt.j2 kj32 t238 t237 (t244 != t219)) = some r := by rw [if_pos rfl] at H; exact H
                          clear H
                          have H := H1
                          clear H1
                          have H' := Aside0.mk H
                          clear H
                          obtain ⟨Ao62, co62, eo62⟩ := Kd.R_slice HO246.out
                          subst eo62
                          obtain ⟨Ao63, co63, eo63⟩ := Kd.R_slice HO_14.out
                          subst eo63
                          go_wp2_with (first | ((with_reducible refine gate_callee (f := 19) rfl ?_); refine goesL_ (some 106) rfl rfl Try.func19 (by kernel_rfl) rfl #[.slice Ao62 t243.length co62, .slice Ao63 t218.length co63] rfl (by (try simp only [List.map_toArray, List.map_cons, List.map_nil]); first | done | (go_simp; done) | rfl | (simp only [List.length_drop, List.length_take]; rfl)) ?_; (with_reducible refine (laws_eqDebtS.calls kj32 _ _ t243 _ _ t218 true _ ?side1 ?side2 ?side3 ?side4 A60.out).mono ?_); (case side1 => repeat (first | exact (Kd.R_reads' HO246.out).2.2 | (with_reducible refine Kd.C_alloc ?_ _) | (with_reducible refine Kd.C_drewN ?_ _) | (with_reducible refine Kd.C_drew ?_))); (case side2 => exact (Kd.R_reads' HO246.out).2.1); (case side3 => repeat (first | exact (Kd.R_reads' HO_14.out).2.2 | (with_reducible refine Kd.C_alloc ?_ _) | (with_reducible refine Kd.C_drewN ?_ _) | (with_reducible refine Kd.C_drew ?_))); (case side4 => exact (Kd.R_reads' HO_14.out).2.1); rintro e w64 ⟨rfl, hb⟩; refine ⟨_, rfl, ?_⟩; have n0_ := Aside0.mk (Kd.R_below (by (with_reducible repeat (first | apply Kd.R_alloc | apply Kd.R_drewN | apply Kd.R_drew)); exact HO_14.out) hb); have n1_ := Aside0.mk (Kd.R_below (by (with_reducible repeat (first | apply Kd.R_alloc | apply Kd.R_drewN | apply Kd.R_drew)); exact HO_17.out) hb); have n2_ := Aside0.mk (Kd.R_below (by (with_reducible repeat (first | apply Kd.R_alloc | apply Kd.R_drewN | apply Kd.R_drew)); exact HO242.out) hb); have n3_ := Aside0.mk (Kd.R_below (by (with_reducible repeat (first | apply Kd.R_alloc | apply Kd.R_drewN | apply Kd.R_drew)); exact HO246.out) hb); have n4_ := Aside0.mk (below_step (by repeat (first | (with_reducible first | exact HB.out | apply below_alloc | apply pw_below_drewN | apply below_drew1) | exact HB.out)) hb); clear HO_14; clear HO_17; clear HO242; clear HO246; clear HB; have HO_14 := n0_; have HO_17 := n1_; have HO242 := n2_; have HO246 := n3_; have HB := n4_; clear n0_ n1_ n2_ n3_ n4_; (try clear hb); (try clear hb2); (try clear hk); (try clear hi)))
                          go_meet
                          case rel => exact ⟨_, ((t244 != t219)), (by first | rfl | (simp; done) | (simp [*]; done)), H', ⟨by have := HJ12.out; have := HJ32.out; first | omega | exact Nat.le_refl _⟩, ⟨by (with_reducible repeat (first | apply Kd.R_alloc | apply Kd.R_drewN | apply Kd.R_drew)); exact Kd.R_mono HO_17.out (fun _ hk => trivial)⟩, ⟨by repeat (first | (with_reducible first | exact HB.out | apply below_alloc | apply pw_below_drewN | apply below_drew1) | exact HB.out)⟩⟩
                        · replace c61 := Bool.eq_false_iff.mpr c61
                          subst c61
                          have H1 : (laws_FnExactPassDebt.j2 kj32 t238 t237 true) = some r := by rw [if_neg (show ¬ (false = true) by decide)] at H; exact H
                          clear H
                          have H := H1
                          clear H1
                          have H' := Aside0.mk H
                          clear H
                          obtain ⟨Ao65, co65, eo65⟩ := Kd.R_slice HO246.out
                          subst eo65
                          obtain ⟨Ao66, co66, eo66⟩ := Kd.R_slice HO_14.out
                          subst eo66
                          go_wp2_with (first | ((with_reducible refine gate_callee (f := 19) rfl ?_); refine goesL_ (some 106) rfl rfl Try.func19 (by kernel_rfl) rfl #[.slice Ao65 t243.length co65, .slice Ao66 t218.length co66] rfl (by (try simp only [List.map_toArray, List.map_cons, List.map_nil]); first | done | (go_simp; done) | rfl | (simp only [List.length_drop, List.length_take]; rfl)) ?_; (with_reducible refine (laws_eqDebtS.calls kj32 _ _ t243 _ _ t218 false _ ?side1 ?side2 ?side3 ?side4 A60.out).mono ?_); (case side1 => repeat (first | exact (Kd.R_reads' HO246.out).2.2 | (with_reducible refine Kd.C_alloc ?_ _) | (with_reducible refine Kd.C_drewN ?_ _) | (with_reducible refine Kd.C_drew ?_))); (case side2 => exact (Kd.R_reads' HO246.out).2.1); (case side3 => repeat (first | exact (Kd.R_reads' HO_14.out).2.2 | (with_reducible refine Kd.C_alloc ?_ _) | (with_reducible refine Kd.C_drewN ?_ _) | (with_reducible refine Kd.C_drew ?_))); (case side4 => exact (Kd.R_reads' HO_14.out).2.1); rintro e w67 ⟨rfl, hb⟩; refine ⟨_, rfl, ?_⟩; have n0_ := Aside0.mk (Kd.R_below (by (with_reducible repeat (first | apply Kd.R_alloc | apply Kd.R_drewN | apply Kd.R_drew)); exact HO_14.out) hb); have n1_ := Aside0.mk (Kd.R_below (by (with_reducible repeat (first | apply Kd.R_alloc | apply Kd.R_drewN | apply Kd.R_drew)); exact HO_17.out) hb); have n2_ := Aside0.mk (Kd.R_below (by (with_reducible repeat (first | apply Kd.R_alloc | apply Kd.R_drewN | apply Kd.R_drew)); exact HO242.out) hb); have n3_ := Aside0.mk (Kd.R_below (by (with_reducible repeat (first | apply Kd.R_alloc | apply Kd.R_drewN | apply Kd.R_drew)); exact HO246.out) hb); have n4_ := Aside0.mk (below_step (by repeat (first | (with_reducible first | exact HB.out | apply below_alloc | apply pw_below_drewN | apply below_drew1) | exact HB.out)) hb); clear HO_14; clear HO_17; clear HO242; clear HO246; clear HB; have HO_14 := n0_; have HO_17 := n1_; have HO242 := n2_; have HO246 := n3_; have HB := n4_; clear n0_ n1_ n2_ n3_ n4_; (try clear hb); (try clear hb2); (try clear hk); (try clear hi)))
                          go_meet
                          case rel => exact ⟨_, (true), (by first | rfl | (simp; done) | (simp [*]; done)), H', ⟨by have := HJ12.out; have := HJ32.out; first | omega | exact Nat.le_refl _⟩, ⟨by (with_reducible repeat (first | apply Kd.R_alloc | apply Kd.R_drewN | apply Kd.R_drew)); exact Kd.R_mono HO_17.out (fun _ hk => trivial)⟩, ⟨by repeat (first | (with_reducible first | exact HB.out | apply below_alloc | apply pw_below_drewN | apply below_drew1) | exact HB.out)⟩⟩
                      case rest =>
                        clear HC54
                        try clear c1
                        try clear c2
                        try clear p2
                        try clear c3
                        try clear c4
                        try clear c5
                        try clear c6
                        try clear c8
                        try clear c8b0
                        try clear c10
                        try clear c15
                        try clear c17
                        try clear c19
                        try clear c21
                        try clear c22
                        try clear c23
                        try clear c28
                        try clear c31
                        try clear c38
                        try clear c38b0
                        try clear c39
                        try clear c40
                        try clear c47
                        try clear c50
                        try clear c50b0
                        try clear c51
                        try clear c51b0
                        try clear c51b1
                        try clear c61
                        try clear p2
                        obtain ⟨kq, x112_53, rfl, HA, HJ53, HO_17, HB⟩ := hcut
                        have hl17_53 := (Kd.R_reads' HO_17.out).1
                        rw [hl17_53] at HO_17
                        (try simp only [hl17_53])
                        cases kq with
                        | zero => exact absurd HA.out (by simp [laws_FnExactPassDebt.j2])
                        | succ kj53 =>
                          have H := HA.out
                          clear HA
                          simp only [laws_FnExactPassDebt.j2] at H
                          by_cases c68 : x112_53 = true
                          · subst c68
                            have H1 : (some false) = some r := by rw [if_pos rfl] at H; exact H
                            clear H
                            have H := H1
                            clear H1
                            obtain rfl := Option.some.inj H
                            cases ht
                          · replace c68 := Bool.eq_false_iff.mpr c68
                            subst c68
                            have H1 : ((laws_heldDebtS.f kj53 t238 1).bind fun t248 => (if t248 < 0 then (some false) else (if t248 = t237 then (some true) else (some false)))) = some r := by rw [if_neg (show ¬ (false = true) by decide)] at H; exact H
                            clear H
                            have H := H1
                            clear H1
                            replace H := Option.bind_eq_some_iff.mp H
                            obtain ⟨t248, A690, H⟩ := H
                            replace H : (if t248 < 0 then (some false) else (if t248 = t237 then (some true) else (some false))) = some r := H
                            have A69 := Aside0.mk A690
                            clear A690
                            by_cases c70 : t248 < 0
                            · rw [if_pos c70] at H
                              have c70b0 : decide (t248 < 0) = true := decide_eq_true c70
                              clear c70
                              obtain rfl := Option.some.inj H
                              cases ht
                            · rw [if_neg c70] at H
                              have c70b0 : decide (t248 < 0) = false := decide_eq_false c70
                              clear c70
                              by_cases c71 : t248 = t237
                              · rw [if_pos c71] at H
                                have c71b0 : (t248 == t237) = true := beq_iff_eq.mpr c71
                                have c71b1 : (t248 != t237) = false := bne_eq_false_iff_eq.mpr c71
                                clear c71
                                obtain rfl := Option.some.inj H
                                go_wp2_with (first | ((with_reducible refine gate_callee (f := 23) rfl ?_); refine goesL_ (some 115) rfl rfl Try.func23 (by kernel_rfl) rfl #[.slice Ao55 t238.length co55, .int .i64 1] rfl (by (try simp only [List.map_toArray, List.map_cons, List.map_nil]); first | done | (go_simp; done) | rfl | (simp only [List.length_drop, List.length_take]; rfl)) ?_; (with_reducible refine (laws_heldDebtS.calls kj53 _ _ t238 1 t248 _ ?side1 ?side2 A69.out).mono ?_); (case side1 => repeat (first | exact (Kd.R_reads' HO_17.out).2.2 | (with_reducible refine Kd.C_alloc ?_ _) | (with_reducible refine Kd.C_drewN ?_ _) | (with_reducible refine Kd.C_drew ?_))); (case side2 => exact (Kd.R_reads' HO_17.out).2.1); rintro e w' ⟨rfl, ⟨nd, rfl⟩⟩; refine ⟨_, rfl, ?_⟩))
                                go_ret
                                exact ⟨by first | rfl | (simp [errW_none, errW_some] <;> rfl) | (simp [*, errW_none, errW_some] <;> rfl), by repeat (first | (with_reducible first | exact HB.out | apply below_alloc | apply pw_below_drewN | apply below_drew1) | exact HB.out)⟩
                              · rw [if_neg c71] at H
                                have c71b0 : (t248 == t237) = false := beq_eq_false_iff_ne.mpr c71
                                have c71b1 : (t248 != t237) = true := bne_iff_ne.mpr c71
                                obtain rfl := Option.some.inj H
                                cases ht
                    · rw [if_neg c51] at H
                      have c51b0 : (t239 == t237) = false := beq_eq_false_iff_ne.mpr c51
                      have c51b1 : (t239 != t237) = true := bne_iff_ne.mpr c51
                      obtain rfl := Option.some.inj H
                      cases ht
          · replace c31 := Bool.eq_false_iff.mpr c31
            subst c31
            have H1 : (some false) = some r := by rw [if_neg (show ¬ (false = true) by decide)] at H; exact H
            clear H
            have H := H1
            clear H1
            obtain rfl := Option.some.inj H
            cases ht

end Go.Proofs.Ytofcgkcpkngocaa.MPassDebt
