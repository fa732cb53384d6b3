-- by a program of this session, for this claim
import Derived.Test.YtofcgkcpkngocaaMPayDebtx0
import Derived.Test.YtofcgkcpkngocaaMPayDebtx1
import Derived.Test.YtofcgkcpkngocaaMPayDebtx2
import Derived.Test.YtofcgkcpkngocaaMPayDebtx5
import Derived.Test.YtofcgkcpkngocaaMPayDebtx6
namespace Go.Proofs.Ytofcgkcpkngocaa.MPayDebt
open Go.RowKit Go.Proofs.YtofcgkcpkngocaaW.PrintWords Go.Proofs.YtofcgkcpkngocaaW.PrintLast Go.Proofs.YtofcgkcpkngocaaW.PrintMore
attribute [local go_sem] max2_int min2_int max_two min_two max_three min_three max_four min_four   -- for this text's walks alone
set_option linter.unusedVariables false
set_option linter.unusedSimpArgs false

/-! ### laws_FnExactPayDebt: function 9 -/
mutual
def laws_FnExactPayDebt.j0 : Nat → Int → List (S67) → Int → Int → Int → List (S65) → Int → List (S65) → List (S65) → Int → Bool → Option (Bool)
  | 0, _, _, _, _, _, _, _, _, _, _, _ => none
  | k + 1, x0, x1, x2, x3, x4, x12, x13, x14, x15, x16, x56 => if x56 = true then (some false) else ((laws_toDebtS.f k x1).bind fun t215 => ((laws_eqDebtS.f k x14 t215).bind fun t218 => (if t218 = true then ((laws_markDebtS.f k x14 1).bind fun bt219 => (if bt219.1 < 0 then (laws_FnExactPayDebt.j1 k x0 x1 x2 x3 x4 x12 x13 x15 true) else ((laws_eqDebtS.f k x15 x12).bind fun t221 => (if t221 = true then (laws_FnExactPayDebt.j1 k x0 x1 x2 x3 x4 x12 x13 x15 (x16 != x13)) else (laws_FnExactPayDebt.j1 k x0 x1 x2 x3 x4 x12 x13 x15 true))))) else (some false))))
def laws_FnExactPayDebt.j1 : Nat → Int → List (S67) → Int → Int → Int → List (S65) → Int → List (S65) → Bool → Option (Bool)
  | 0, _, _, _, _, _, _, _, _, _ => none
  | k + 1, x0, x1, x2, x3, x4, x12, x13, x15, x77 => if x77 = true then (some false) else ((laws_markDebtS.f k x15 1).bind fun bt222 => ((laws_heldDebtS.f k bt222.2 1).bind fun t224 => (if t224 < 0 then (some false) else (if t224 = bt222.1 then ((laws_toDebtS.f k x1).bind fun t225 => ((impl_PayDebt.f k x0 t225 x2 x3 x4).bind fun bt228 => ((laws_eqDebtS.f k bt228.1 x12).bind fun t232 => (if t232 = true then (laws_FnExactPayDebt.j2 k bt222.2 bt222.1 (bt228.2 != x13)) else (laws_FnExactPayDebt.j2 k bt222.2 bt222.1 true))))) else (some false)))))
def laws_FnExactPayDebt.j2 : Nat → List (S65) → Int → Bool → Option (Bool)
  | 0, _, _, _ => none
  | k + 1, x15, x18, x107 => if x107 = true then (some false) else ((laws_heldDebtS.f k x15 1).bind fun t233 => (if t233 < 0 then (some false) else (if t233 = x18 then (some true) else (some false))))
end
def laws_FnExactPayDebt.f (k : Nat) (a0 : Int) (l1 : List (S67)) (a2 : Int) (a3 : Int) (a4 : Int) : Option (Bool) := (laws_szDebtS.f l1 1048576).bind fun t199 => (if t199 < 0 then (some true) else ((laws_toDebtS.f k l1).bind fun t200 => ((spec_PayDebt.f k a0 t200 a2 a3 a4).bind fun bt203 => ((laws_toDebtS.f k l1).bind fun t207 => ((impl_PayDebt.f k a0 t207 a2 a3 a4).bind fun bt210 => ((laws_eqDebtS.f k bt210.1 bt203.1).bind fun t214 => (if t214 = true then (laws_FnExactPayDebt.j0 k a0 l1 a2 a3 a4 bt203.1 bt203.2 t207 bt210.1 bt210.2 (bt210.2 != bt203.2)) else (laws_FnExactPayDebt.j0 k a0 l1 a2 a3 a4 bt203.1 bt203.2 t207 bt210.1 bt210.2 true))))))))
theorem laws_FnExactPayDebt.mono_l : ∀ k, (∀ y0 y1 y2 y3 y4 y5 y6 y7 y8 y9 y10, LeO (laws_FnExactPayDebt.j0 k y0 y1 y2 y3 y4 y5 y6 y7 y8 y9 y10) (laws_FnExactPayDebt.j0 (k + 1) y0 y1 y2 y3 y4 y5 y6 y7 y8 y9 y10)) ∧ (∀ y0 y1 y2 y3 y4 y5 y6 y7 y8, LeO (laws_FnExactPayDebt.j1 k y0 y1 y2 y3 y4 y5 y6 y7 y8) (laws_FnExactPayDebt.j1 (k + 1) y0 y1 y2 y3 y4 y5 y6 y7 y8)) ∧ (∀ y0 y1 y2, LeO (laws_FnExactPayDebt.j2 k y0 y1 y2) (laws_FnExactPayDebt.j2 (k + 1) y0 y1 y2))
  | 0 => ⟨fun _ _ _ _ _ _ _ _ _ _ _ r h => by simp [laws_FnExactPayDebt.j0] at h, fun _ _ _ _ _ _ _ _ _ r h => by simp [laws_FnExactPayDebt.j1] at h, fun _ _ _ r h => by simp [laws_FnExactPayDebt.j2] at h⟩
  | k + 1 => by
    obtain ⟨ih0, ih1, ih2⟩ := laws_FnExactPayDebt.mono_l k
    refine ⟨?_, ?_, ?_⟩
    · intro y0 y1 y2 y3 y4 y5 y6 y7 y8 y9 y10
      unfold laws_FnExactPayDebt.j0
      repeat' first
      | (with_reducible exact ih0 _ _ _ _ _ _ _ _ _ _ _)
      | (with_reducible exact ih1 _ _ _ _ _ _ _ _ _)
      | (with_reducible exact ih2 _ _ _)
      | (with_reducible exact impl_PayDebt.mono _ _ _ _ _ _)
      | (with_reducible exact laws_eqDebtS.mono _ _ _)
      | (with_reducible exact laws_heldDebtS.mono _ _ _)
      | (with_reducible exact laws_markDebtS.mono _ _ _)
      | (with_reducible exact laws_toDebtS.mono _ _)
      | (with_reducible exact spec_PayDebt.mono _ _ _ _ _ _)
      | (with_reducible exact LeO.refl _)
      | (with_reducible exact LeO.none _)
      | (with_reducible refine LeO.ite ?_ ?_)
      | (with_reducible refine LeO.bind ?_ (fun _ => ?_))
      | exact ih0 _ _ _ _ _ _ _ _ _ _ _
      | exact ih1 _ _ _ _ _ _ _ _ _
      | exact ih2 _ _ _
      | exact impl_PayDebt.mono _ _ _ _ _ _
      | exact laws_eqDebtS.mono _ _ _
      | exact laws_heldDebtS.mono _ _ _
      | exact laws_markDebtS.mono _ _ _
      | exact laws_toDebtS.mono _ _
      | exact spec_PayDebt.mono _ _ _ _ _ _
      | exact LeO.none _
      | refine LeO.ite ?_ ?_
      | refine LeO.bind ?_ (fun _ => ?_)
    · intro y0 y1 y2 y3 y4 y5 y6 y7 y8
      unfold laws_FnExactPayDebt.j1
      repeat' first
      | (with_reducible exact ih0 _ _ _ _ _ _ _ _ _ _ _)
      | (with_reducible exact ih1 _ _ _ _ _ _ _ _ _)
      | (with_reducible exact ih2 _ _ _)
      | (with_reducible exact impl_PayDebt.mono _ _ _ _ _ _)
      | (with_reducible exact laws_eqDebtS.mono _ _ _)
      | (with_reducible exact laws_heldDebtS.mono _ _ _)
      | (with_reducible exact laws_markDebtS.mono _ _ _)
      | (with_reducible exact laws_toDebtS.mono _ _)
      | (with_reducible exact spec_PayDebt.mono _ _ _ _ _ _)
      | (with_reducible exact LeO.refl _)
      | (with_reducible exact LeO.none _)
      | (with_reducible refine LeO.ite ?_ ?_)
      | (with_reducible refine LeO.bind ?_ (fun _ => ?_))
      | exact ih0 _ _ _ _ _ _ _ _ _ _ _
      | exact ih1 _ _ _ _ _ _ _ _ _
      | exact ih2 _ _ _
      | exact impl_PayDebt.mono _ _ _ _ _ _
      | exact laws_eqDebtS.mono _ _ _
      | exact laws_heldDebtS.mono _ _ _
      | exact laws_markDebtS.mono _ _ _
      | exact laws_toDebtS.mono _ _
      | exact spec_PayDebt.mono _ _ _ _ _ _
      | exact LeO.none _
      | refine LeO.ite ?_ ?_
      | refine LeO.bind ?_ (fun _ => ?_)
    · intro y0 y1 y2
      unfold laws_FnExactPayDebt.j2
      repeat' first
      | (with_reducible exact ih0 _ _ _ _ _ _ _ _ _ _ _)
      | (with_reducible exact ih1 _ _ _ _ _ _ _ _ _)
      | (with_reducible exact ih2 _ _ _)
      | (with_reducible exact impl_PayDebt.mono _ _ _ _ _ _)
      | (with_reducible exact laws_eqDebtS.mono _ _ _)
      | (with_reducible exact laws_heldDebtS.mono _ _ _)
      | (with_reducible exact laws_markDebtS.mono _ _ _)
      | (with_reducible exact laws_toDebtS.mono _ _)
      | (with_reducible exact spec_PayDebt.mono _ _ _ _ _ _)
      | (with_reducible exact LeO.refl _)
      | (with_reducible exact LeO.none _)
      | (with_reducible refine LeO.ite ?_ ?_)
      | (with_reducible refine LeO.bind ?_ (fun _ => ?_))
      | exact ih0 _ _ _ _ _ _ _ _ _ _ _
      | exact ih1 _ _ _ _ _ _ _ _ _
      | exact ih2 _ _ _
      | exact impl_PayDebt.mono _ _ _ _ _ _
      | exact laws_eqDebtS.mono _ _ _
      | exact laws_heldDebtS.mono _ _ _
      | exact laws_markDebtS.mono _ _ _
      | exact laws_toDebtS.mono _ _
      | exact spec_PayDebt.mono _ _ _ _ _ _
      | exact LeO.none _
      | refine LeO.ite ?_ ?_
      | refine LeO.bind ?_ (fun _ => ?_)
theorem laws_FnExactPayDebt.mono : ∀ a0 a1 a2 a3 a4 k, LeO (laws_FnExactPayDebt.f k a0 a1 a2 a3 a4) (laws_FnExactPayDebt.f (k + 1) a0 a1 a2 a3 a4) := by
  intro a0 a1 a2 a3 a4 k
  obtain ⟨ih0, ih1, ih2⟩ := laws_FnExactPayDebt.mono_l k
  unfold laws_FnExactPayDebt.f
  repeat' first
      | (with_reducible exact ih0 _ _ _ _ _ _ _ _ _ _ _)
      | (with_reducible exact ih1 _ _ _ _ _ _ _ _ _)
      | (with_reducible exact ih2 _ _ _)
      | (with_reducible exact impl_PayDebt.mono _ _ _ _ _ _)
      | (with_reducible exact laws_eqDebtS.mono _ _ _)
      | (with_reducible exact laws_heldDebtS.mono _ _ _)
      | (with_reducible exact laws_markDebtS.mono _ _ _)
      | (with_reducible exact laws_toDebtS.mono _ _)
      | (with_reducible exact spec_PayDebt.mono _ _ _ _ _ _)
      | (with_reducible exact LeO.refl _)
      | (with_reducible exact LeO.none _)
      | (with_reducible refine LeO.ite ?_ ?_)
      | (with_reducible refine LeO.bind ?_ (fun _ => ?_))
      | exact ih0 _ _ _ _ _ _ _ _ _ _ _
      | exact ih1 _ _ _ _ _ _ _ _ _
      | exact ih2 _ _ _
      | exact impl_PayDebt.mono _ _ _ _ _ _
      | exact laws_eqDebtS.mono _ _ _
      | exact laws_heldDebtS.mono _ _ _
      | exact laws_markDebtS.mono _ _ _
      | exact laws_toDebtS.mono _ _
      | exact spec_PayDebt.mono _ _ _ _ _ _
      | exact LeO.none _
      | refine LeO.ite ?_ ?_
      | refine LeO.bind ?_ (fun _ => ?_)
set_option maxHeartbeats 8000000 in
set_option maxRecDepth 100000 in
theorem laws_FnExactPayDebt.calls (k : Nat) (a0 : Int) (A1 : Option Addr) (c1 : Nat) (l1 : List (S67)) (a2 : Int) (a3 : Int) (a4 : Int) (r : Bool) (w : World) (hr1 : Kd.C k67 w A1 l1.length l1) (hc1 : l1.length ≤ c1) (h : laws_FnExactPayDebt.f k a0 l1 a2 a3 a4 = some r) (ht : r = true) :
    Calls Try.prog 9 #[.int .i64 a0, .slice A1 l1.length c1, .int .i64 a2, .int .i64 a3, .int .i64 a4] w fun e w' => e = .returned (.bool r) ∧ Below w.heap.size w w' := by
  have HR1 := Aside0.mk hr1
  have HC1 := Aside0.mk hc1
  clear hr1 hc1
  have HB := Aside0.mk (Below.refl w.heap.size w)
  have H : ((laws_szDebtS.f l1 1048576).bind fun t199 => (if t199 < 0 then (some true) else ((laws_toDebtS.f k l1).bind fun t200 => ((spec_PayDebt.f k a0 t200 a2 a3 a4).bind fun bt203 => ((laws_toDebtS.f k l1).bind fun t207 => ((impl_PayDebt.f k a0 t207 a2 a3 a4).bind fun bt210 => ((laws_eqDebtS.f k bt210.1 bt203.1).bind fun t214 => (if t214 = true then (laws_FnExactPayDebt.j0 k a0 l1 a2 a3 a4 bt203.1 bt203.2 t207 bt210.1 bt210.2 (bt210.2 != bt203.2)) else (laws_FnExactPayDebt.j0 k a0 l1 a2 a3 a4 bt203.1 bt203.2 t207 bt210.1 bt210.2 true))))))))) = some r := h
  clear h
  replace H := Option.bind_eq_some_iff.mp H
  obtain ⟨t199, A60, H⟩ := H
  replace H : (if t199 < 0 then (some true) else ((laws_toDebtS.f k l1).bind fun t200 => ((spec_PayDebt.f k a0 t200 a2 a3 a4).bind fun bt203 => ((laws_toDebtS.f k l1).bind fun t207 => ((impl_PayDebt.f k a0 t207 a2 a3 a4).bind fun bt210 => ((laws_eqDebtS.f k bt210.1 bt203.1).bind fun t214 => (if t214 = true then (laws_FnExactPayDebt.j0 k a0 l1 a2 a3 a4 bt203.1 bt203.2 t207 bt210.1 bt210.2 (bt210.2 != bt203.2)) else (laws_FnExactPayDebt.j0 k a0 l1 a2 a3 a4 bt203.1 bt203.2 t207 bt210.1 bt210.2 true)))))))) = some r := H
  have A6 := Aside0.mk A60
  clear A60
  by_cases c7 : t199 < 0
  · rw [if_pos c7] at H
    have c7b0 : decide (t199 < 0) = true := decide_eq_true c7
    clear c7
    obtain rfl := Option.some.inj H
    go_enter Try.func9, Try.ntmps9
    go_wp2_with (first | ((with_reducible refine gate_callee (f := 15) rfl ?_); refine goesL_ (some 24) rfl rfl Try.func15 (by kernel_rfl) rfl #[.slice A1 l1.length c1, .int .i64 1048576] rfl (by (try simp only [List.map_toArray, List.map_cons, List.map_nil]); first | done | (go_simp; done) | rfl | (simp only [List.length_drop, List.length_take]; rfl)) ?_; (with_reducible refine (laws_szDebtS.calls _ _ l1 1048576 t199 _ ?side1 ?side2 A6.out).mono ?_); (case side1 => repeat (first | exact HR1.out | (with_reducible refine Kd.C_alloc ?_ _) | (with_reducible refine Kd.C_drewN ?_ _) | (with_reducible refine Kd.C_drew ?_))); (case side2 => exact HC1.out); rintro e w' ⟨rfl, ⟨nd, rfl⟩⟩; refine ⟨_, rfl, ?_⟩))
    go_ret
    exact ⟨by first | rfl | (simp [errW_none, errW_some] <;> rfl) | (simp [*, errW_none, errW_some] <;> rfl), by repeat (first | (with_reducible first | exact HB.out | apply below_alloc | apply pw_below_drewN | apply below_drew1) | exact HB.out)⟩
  · rw [if_neg c7] at H
    have c7b0 : decide (t199 < 0) = false := decide_eq_false c7
    clear c7
    replace H := Option.bind_eq_some_iff.mp H
    obtain ⟨t200, A80, H⟩ := H
    replace H : ((spec_PayDebt.f k a0 t200 a2 a3 a4).bind fun bt203 => ((laws_toDebtS.f k l1).bind fun t207 => ((impl_PayDebt.f k a0 t207 a2 a3 a4).bind fun bt210 => ((laws_eqDebtS.f k bt210.1 bt203.1).bind fun t214 => (if t214 = true then (laws_FnExactPayDebt.j0 k a0 l1 a2 a3 a4 bt203.1 bt203.2 t207 bt210.1 bt210.2 (bt210.2 != bt203.2)) else (laws_FnExactPayDebt.j0 k a0 l1 a2 a3 a4 bt203.1 bt203.2 t207 bt210.1 bt210.2 true)))))) = some r := H
    have A8 := Aside0.mk A80
    clear A80
    replace H := Option.bind_eq_some_iff.mp H
    obtain ⟨⟨t203, t204⟩, A90, H⟩ := H
    replace H : ((laws_toDebtS.f k l1).bind fun t207 => ((impl_PayDebt.f k a0 t207 a2 a3 a4).bind fun bt210 => ((laws_eqDebtS.f k bt210.1 t203).bind fun t214 => (if t214 = true then (laws_FnExactPayDebt.j0 k a0 l1 a2 a3 a4 t203 t204 t207 bt210.1 bt210.2 (bt210.2 != t204)) else (laws_FnExactPayDebt.j0 k a0 l1 a2 a3 a4 t203 t204 t207 bt210.1 bt210.2 true))))) = some r := H
    have A9 := Aside0.mk A90
    clear A90
    replace H := Option.bind_eq_some_iff.mp H
    obtain ⟨t207, A100, H⟩ := H
    replace H : ((impl_PayDebt.f k a0 t207 a2 a3 a4).bind fun bt210 => ((laws_eqDebtS.f k bt210.1 t203).bind fun t214 => (if t214 = true then (laws_FnExactPayDebt.j0 k a0 l1 a2 a3 a4 t203 t204 t207 bt210.1 bt210.2 (bt210.2 != t204)) else (laws_FnExactPayDebt.j0 k a0 l1 a2 a3 a4 t203 t204 t207 bt210.1 bt210.2 true)))) = some r := H
    have A10 := Aside0.mk A100
    clear A100
    replace H := Option.bind_eq_some_iff.mp H
    obtain ⟨⟨t210, t211⟩, A110, H⟩ := H
    replace H : ((laws_eqDebtS.f k t210 t203).bind fun t214 => (if t214 = true then (laws_FnExactPayDebt.j0 k a0 l1 a2 a3 a4 t203 t204 t207 t210 t211 (t211 != t204)) else (laws_FnExactPayDebt.j0 k a0 l1 a2 a3 a4 t203 t204 t207 t210 t211 true))) = some r := H
    have A11 := Aside0.mk A110
    clear A110
    have HC12 := Aside0.mk H
    clear H
    go_enter Try.func9, Try.ntmps9
    go_upto_region 8 with (first | ((with_reducible refine gate_callee (f := 15) rfl ?_); refine goesL_ (some 24) rfl rfl Try.func15 (by kernel_rfl) rfl #[.slice A1 l1.length c1, .int .i64 1048576] rfl (by (try simp only [List.map_toArray, List.map_cons, List.map_nil]); first | done | (go_simp; done) | rfl | (simp only [List.length_drop, List.length_take]; rfl)) ?_; (with_reducible refine (laws_szDebtS.calls _ _ l1 1048576 t199 _ ?side1 ?side2 A6.out).mono ?_); (case side1 => repeat (first | exact HR1.out | (with_reducible refine Kd.C_alloc ?_ _) | (with_reducible refine Kd.C_drewN ?_ _) | (with_reducible refine Kd.C_drew ?_))); (case side2 => exact HC1.out); rintro e w' ⟨rfl, ⟨nd, rfl⟩⟩; refine ⟨_, rfl, ?_⟩) | ((with_reducible refine gate_callee (f := 17) rfl ?_); refine goesL_ (some 30) rfl rfl Try.func17 (by kernel_rfl) rfl #[.slice A1 l1.length c1] rfl (by (try simp only [List.map_toArray, List.map_cons, List.map_nil]); first | done | (go_simp; done) | rfl | (simp only [List.length_drop, List.length_take]; rfl)) ?_; (with_reducible refine (laws_toDebtS.calls k _ _ l1 t200 _ ?side1 ?side2 A8.out).mono ?_); (case side1 => repeat (first | exact HR1.out | (with_reducible refine Kd.C_alloc ?_ _) | (with_reducible refine Kd.C_drewN ?_ _) | (with_reducible refine Kd.C_drew ?_))); (case side2 => exact HC1.out); rintro e w13 ⟨v201, rfl, ho0, hb⟩; refine ⟨_, rfl, ?_⟩; have n0_ := Aside0.mk (Kd.R_lower ho0 (below_size (by repeat (first | (with_reducible first | exact HB.out | apply below_alloc | apply pw_below_drewN | apply below_drew1) | exact HB.out)))); have n1_ := Aside0.mk (below_step (by repeat (first | (with_reducible first | exact HB.out | apply below_alloc | apply pw_below_drewN | apply below_drew1) | exact HB.out)) hb); clear HB; have HO202 := n0_; have HB := n1_; clear n0_ n1_; (try clear hb); (try clear hb2); (try clear hk); (try clear hi); (try clear ho0); obtain ⟨Ao14, co14, eo14⟩ := Kd.R_slice HO202.out; subst eo14) | ((with_reducible refine gate_callee (f := 36) rfl ?_); refine goesL_ (some 34) rfl rfl Try.func36 (by kernel_rfl) rfl #[.int .i64 a0, .slice Ao14 t200.length co14, .int .i64 a2, .int .i64 a3, .int .i64 a4] rfl (by (try simp only [List.map_toArray, List.map_cons, List.map_nil]); first | done | (go_simp; done) | rfl | (simp only [List.length_drop, List.length_take]; rfl)) ?_; (with_reducible refine (spec_PayDebt.calls k a0 _ _ t200 a2 a3 a4 t203 t204 _ ?side1 ?side2 A9.out).mono ?_); (case side1 => repeat (first | exact (Kd.R_reads' HO202.out).2.2 | (with_reducible refine Kd.C_alloc ?_ _) | (with_reducible refine Kd.C_drewN ?_ _) | (with_reducible refine Kd.C_drew ?_))); (case side2 => exact (Kd.R_reads' HO202.out).2.1); rintro e w15 ⟨v205, rfl, ho0, hb⟩; refine ⟨_, rfl, ?_⟩; have n0_ := Aside0.mk (Kd.R_elder' (by (with_reducible repeat (first | apply Kd.R_alloc | apply Kd.R_drewN | apply Kd.R_drew)); exact HO202.out) (Kd.R_base ho0) hb); have n1_ := Aside0.mk (Kd.R_lower (Kd.R_new' ho0 (Kd.R_lt (by (with_reducible repeat (first | apply Kd.R_alloc | apply Kd.R_drewN | apply Kd.R_drew)); exact HO202.out))) (below_size (by repeat (first | (with_reducible first | exact HB.out | apply below_alloc | apply pw_below_drewN | apply below_drew1) | exact HB.out)))); have n2_ := Aside0.mk (below_step (by repeat (first | (with_reducible first | exact HB.out | apply below_alloc | apply pw_below_drewN | apply below_drew1) | exact HB.out)) hb); clear HO202; clear HB; have HO202 := n0_; have HO206 := n1_; have HB := n2_; clear n0_ n1_ n2_; (try clear hb); (try clear hb2); (try clear hk); (try clear hi); (try clear ho0)) | ((with_reducible refine gate_callee (f := 17) rfl ?_); refine goesL_ (some 38) rfl rfl Try.func17 (by kernel_rfl) rfl #[.slice A1 l1.length c1] rfl (by (try simp only [List.map_toArray, List.map_cons, List.map_nil]); first | done | (go_simp; done) | rfl | (simp only [List.length_drop, List.length_take]; rfl)) ?_; (with_reducible refine (laws_toDebtS.calls k _ _ l1 t207 _ ?side1 ?side2 A10.out).mono ?_); (case side1 => repeat (first | exact (Kd.C_below HR1.out HB.out) | (with_reducible refine Kd.C_alloc ?_ _) | (with_reducible refine Kd.C_drewN ?_ _) | (with_reducible refine Kd.C_drew ?_))); (case side2 => exact HC1.out); rintro e w16 ⟨v208, rfl, ho0, hb⟩; refine ⟨_, rfl, ?_⟩; have n0_ := Aside0.mk (Kd.R_elder' (by (with_reducible repeat (first | apply Kd.R_alloc | apply Kd.R_drewN | apply Kd.R_drew)); exact HO202.out) (Kd.R_base ho0) hb); have n1_ := Aside0.mk (Kd.R_elder' (by (with_reducible repeat (first | apply Kd.R_alloc | apply Kd.R_drewN | apply Kd.R_drew)); exact HO206.out) (Kd.R_base ho0) hb); have n2_ := Aside0.mk (Kd.R_lower (Kd.R_new' (Kd.R_new' ho0 (Kd.R_lt (by (with_reducible repeat (first | apply Kd.R_alloc | apply Kd.R_drewN | apply Kd.R_drew)); exact HO202.out))) (Kd.R_lt (by (with_reducible repeat (first | apply Kd.R_alloc | apply Kd.R_drewN | apply Kd.R_drew)); exact HO206.out))) (below_size (by repeat (first | (with_reducible first | exact HB.out | apply below_alloc | apply pw_below_drewN | apply below_drew1) | exact HB.out)))); have n3_ := Aside0.mk (below_step (by repeat (first | (with_reducible first | exact HB.out | apply below_alloc | apply pw_below_drewN | apply below_drew1) | exact HB.out)) hb); clear HO202; clear HO206; clear HB; have HO202 := n0_; have HO206 := n1_; have HO209 := n2_; have HB := n3_; clear n0_ n1_ n2_ n3_; (try clear hb); (try clear hb2); (try clear hk); (try clear hi); (try clear ho0); obtain ⟨Ao17, co17, eo17⟩ := Kd.R_slice HO209.out; subst eo17) | ((with_reducible refine gate_callee (f := 37) rfl ?_); refine goesL_ (some 45) rfl rfl Try.func37 (by kernel_rfl) rfl #[.int .i64 a0, .slice Ao17 t207.length co17, .int .i64 a2, .int .i64 a3, .int .i64 a4] rfl (by (try simp only [List.map_toArray, List.map_cons, List.map_nil]); first | done | (go_simp; done) | rfl | (simp only [List.length_drop, List.length_take]; rfl)) ?_; (with_reducible refine (impl_PayDebt.calls k a0 _ _ t207 a2 a3 a4 t210 t211 _ ?side1 ?side2 A11.out).mono ?_); (case side1 => repeat (first | exact (Kd.R_reads' HO209.out).2.2 | (with_reducible refine Kd.C_alloc ?_ _) | (with_reducible refine Kd.C_drewN ?_ _) | (with_reducible refine Kd.C_drew ?_))); (case side2 => exact (Kd.R_reads' HO209.out).2.1); rintro e w18 ⟨v212, rfl, ho0, hb⟩; refine ⟨_, rfl, ?_⟩; have n0_ := Aside0.mk (Kd.R_elder' (by (with_reducible repeat (first | apply Kd.R_alloc | apply Kd.R_drewN | apply Kd.R_drew)); exact HO202.out) (Kd.R_base ho0) hb); have n1_ := Aside0.mk (Kd.R_elder' (by (with_reducible repeat (first | apply Kd.R_alloc | apply Kd.R_drewN | apply Kd.R_drew)); exact HO206.out) (Kd.R_base ho0) hb); have n2_ := Aside0.mk (Kd.R_elder' (by (with_reducible repeat (first | apply Kd.R_alloc | apply Kd.R_drewN | apply Kd.R_drew)); exact HO209.out) (Kd.R_base ho0) hb); have n3_ := Aside0.mk (Kd.R_lower (Kd.R_new' (Kd.R_new' (Kd.R_new' ho0 (Kd.R_lt (by (with_reducible repeat (first | apply Kd.R_alloc | apply Kd.R_drewN | apply Kd.R_drew)); exact HO202.out))) (Kd.R_lt (by (with_reducible repeat (first | apply Kd.R_alloc | apply Kd.R_drewN | apply Kd.R_drew)); exact HO206.out))) (Kd.R_lt (by (with_reducible repeat (first | apply Kd.R_alloc | apply Kd.R_drewN | apply Kd.R_drew)); exact HO209.out))) (below_size (by repeat (first | (with_reducible first | exact HB.out | apply below_alloc | apply pw_below_drewN | apply below_drew1) | exact HB.out)))); have n4_ := Aside0.mk (below_step (by repeat (first | (with_reducible first | exact HB.out | apply below_alloc | apply pw_below_drewN | apply below_drew1) | exact HB.out)) hb); clear HO202; clear HO206; clear HO209; clear HB; have HO202 := n0_; have HO206 := n1_; have HO209 := n2_; have HO213 := n3_; have HB := n4_; clear n0_ n1_ n2_ n3_ n4_; (try clear hb); (try clear hb2); (try clear hk); (try clear hi); (try clear ho0)))
    (try simp only [Act.put, List.setIfInBounds_toArray, List.set_cons_zero, List.set_cons_succ])
    go_cut [56] (fun v56 wc => ∃ (kq : Nat) (x56_11 : Bool), v56 = .bool x56_11 ∧ Aside0 (laws_FnExactPayDebt.j0 kq a0 l1 a2 a3 a4 t203 t204 t207 t210 t211 x56_11 = some r) ∧ Aside0 (kq ≤ k) ∧ Aside0 (Kd.R k65 65 wc w.heap.size (fun k_ => some k_ ≠ ((.slice Ao17 t207.length co17) : Value).ownBlock ∧ some k_ ≠ (v212 : Value).ownBlock) v205 t203) ∧ Aside0 (Kd.R k65 65 wc w.heap.size (fun k_ => some k_ ≠ (v205 : Value).ownBlock ∧ some k_ ≠ (v212 : Value).ownBlock) (.slice Ao17 t207.length co17) t207) ∧ Aside0 (Kd.R k65 65 wc w.heap.size (fun k_ => some k_ ≠ (v205 : Value).ownBlock ∧ some k_ ≠ ((.slice Ao17 t207.length co17) : Value).ownBlock) v212 t210) ∧ Aside0 (Below w.heap.size w wc))
    case first =>
      have H := HC12.out
      clear HC12
      replace H := Option.bind_eq_some_iff.mp H
      obtain ⟨t214, A190, H⟩ := H
      replace H : (if t214 = true then (laws_FnExactPayDebt.j0 k a0 l1 a2 a3 a4 t203 t204 t207 t210 t211 (t211 != t204)) else (laws_FnExactPayDebt.j0 k a0 l1 a2 a3 a4 t203 t204 t207 t210 t211 true)) = some r := H
      have A19 := Aside0.mk A190
      clear A190
      by_cases c20 : t214 = true
      · subst c20
        have H1 : (laws_FnExactPayDebt.j0 k a0 l1 a2 a3 a4 t203 t204 t207 t210 t211 (t211 != t204)) = some r := by rw [if_pos rfl] at H; exact H
        clear H
        have H := H1
        clear H1
        have H' := Aside0.mk H
        clear H
        obtain ⟨Ao21, co21, eo21⟩ := Kd.R_slice HO213.out
        subst eo21
        obtain ⟨Ao22, co22, eo22⟩ := Kd.R_slice HO206.out
        subst eo22
        go_wp2_with (first | ((with_reducible refine gate_callee (f := 19) rfl ?_); refine goesL_ (some 50) rfl rfl Try.func19 (by kernel_rfl) rfl #[.slice Ao21 t210.length co21, .slice Ao22 t203.length co22] rfl (by (try simp only [List.map_toArray, List.map_cons, List.map_nil]); first | done | (go_simp; done) | rfl | (simp only [List.length_drop, List.length_take]; rfl)) ?_; (with_reducible refine (laws_eqDebtS.calls k _ _ t210 _ _ t203 true _ ?side1 ?side2 ?side3 ?side4 A19.out).mono ?_); (case side1 => repeat (first | exact (Kd.R_reads' HO213.out).2.2 | (with_reducible refine Kd.C_alloc ?_ _) | (with_reducible refine Kd.C_drewN ?_ _) | (with_reducible refine Kd.C_drew ?_))); (case side2 => exact (Kd.R_reads' HO213.out).2.1); (case side3 => repeat (first | exact (Kd.R_reads' HO206.out).2.2 | (with_reducible refine Kd.C_alloc ?_ _) | (with_reducible refine Kd.C_drewN ?_ _) | (with_reducible refine Kd.C_drew ?_))); (case side4 => exact (Kd.R_reads' HO206.out).2.1); rintro e w23 ⟨rfl, hb⟩; refine ⟨_, rfl, ?_⟩; have n0_ := Aside0.mk (Kd.R_below (by (with_reducible repeat (first | apply Kd.R_alloc | apply Kd.R_drewN | apply Kd.R_drew)); exact HO202.out) hb); have n1_ := Aside0.mk (Kd.R_below (by (with_reducible repeat (first | apply Kd.R_alloc | apply Kd.R_drewN | apply Kd.R_drew)); exact HO206.out) hb); have n2_ := Aside0.mk (Kd.R_below (by (with_reducible repeat (first | apply Kd.R_alloc | apply Kd.R_drewN | apply Kd.R_drew)); exact HO209.out) hb); have n3_ := Aside0.mk (Kd.R_below (by (with_reducible repeat (first | apply Kd.R_alloc | apply Kd.R_drewN | apply Kd.R_drew)); exact HO213.out) hb); have n4_ := Aside0.mk (below_step (by repeat (first | (with_reducible first | exact HB.out | apply below_alloc | apply pw_below_drewN | apply below_drew1) | exact HB.out)) hb); clear HO202; clear HO206; clear HO209; clear HO213; clear HB; have HO202 := n0_; have HO206 := n1_; have HO209 := n2_; have HO213 := n3_; have HB := n4_; clear n0_ n1_ n2_ n3_ n4_; (try clear hb); (try clear hb2); (try clear hk); (try clear hi)))
        go_meet
        case rel => exact ⟨_, ((t211 != t204)), (by first | rfl | (simp; done) | (simp [*]; done)), H', ⟨by first | omega | exact Nat.le_refl _⟩, ⟨by (with_reducible repeat (first | apply Kd.R_alloc | apply Kd.R_drewN | apply Kd.R_drew)); exact Kd.R_mono HO206.out (fun _ hk => ⟨hk.1.2, hk.2⟩)⟩, ⟨by (with_reducible repeat (first | apply Kd.R_alloc | apply Kd.R_drewN | apply Kd.R_drew)); exact Kd.R_mono HO209.out (fun _ hk => ⟨hk.1.2, hk.2⟩)⟩, ⟨by (with_reducible repeat (first | apply Kd.R_alloc | apply Kd.R_drewN | apply Kd.R_drew)); exact Kd.R_mono HO213.out (fun _ hk => ⟨hk.1.2, hk.2⟩)⟩, ⟨by repeat (first | (with_reducible first | exact HB.out | apply below_alloc | apply pw_below_drewN | apply below_drew1) | exact HB.out)⟩⟩
      · replace c20 := Bool.eq_false_iff.mpr c20
        subst c20
        have H1 : (laws_FnExactPayDebt.j0 k a0 l1 a2 a3 a4 t203 t204 t207 t210 t211 true) = some r := by rw [if_neg (show ¬ (false = true) by decide)] at H; exact H
        clear H
        have H := H1
        clear H1
        have H' := Aside0.mk H
        clear H
        obtain ⟨Ao24, co24, eo24⟩ := Kd.R_slice HO213.out
        subst eo24
        obtain ⟨Ao25, co25, eo25⟩ := Kd.R_slice HO206.out
        subst eo25
        go_wp2_with (first | ((with_reducible refine gate_callee (f := 19) rfl ?_); refine goesL_ (some 50) rfl rfl Try.func19 (by kernel_rfl) rfl #[.slice Ao24 t210.length co24, .slice Ao25 t203.length co25] rfl (by (try simp only [List.map_toArray, List.map_cons, List.map_nil]); first | done | (go_simp; done) | rfl | (simp only [List.length_drop, List.length_take]; rfl)) ?_; (with_reducible refine (laws_eqDebtS.calls k _ _ t210 _ _ t203 false _ ?side1 ?side2 ?side3 ?side4 A19.out).mono ?_); (case side1 => repeat (first | exact (Kd.R_reads' HO213.out).2.2 | (with_reducible refine Kd.C_alloc ?_ _) | (with_reducible refine Kd.C_drewN ?_ _) | (with_reducible refine Kd.C_drew ?_))); (case side2 => exact (Kd.R_reads' HO213.out).2.1); (case side3 => repeat (first | exact (Kd.R_reads' HO206.out).2.2 | (with_reducible refine Kd.C_alloc ?_ _) | (with_reducible refine Kd.C_drewN ?_ _) | (with_reducible refine Kd.C_drew ?_))); (case side4 => exact (Kd.R_reads' HO206.out).2.1); rintro e w26 ⟨rfl, hb⟩; refine ⟨_, rfl, ?_⟩; have n0_ := Aside0.mk (Kd.R_below (by (with_reducible repeat (first | apply Kd.R_alloc | apply Kd.R_drewN | apply Kd.R_drew)); exact HO202.out) hb); have n1_ := Aside0.mk (Kd.R_below (by (with_reducible repeat (first | apply Kd.R_alloc | apply Kd.R_drewN | apply Kd.R_drew)); exact HO206.out) hb); have n2_ := Aside0.mk (Kd.R_below (by (with_reducible repeat (first | apply Kd.R_alloc | apply Kd.R_drewN | apply Kd.R_drew)); exact HO209.out) hb); have n3_ := Aside0.mk (Kd.R_below (by (with_reducible repeat (first | apply Kd.R_alloc | apply Kd.R_drewN | apply Kd.R_drew)); exact HO213.out) hb); have n4_ := Aside0.mk (below_step (by repeat (first | (with_reducible first | exact HB.out | apply below_alloc | apply pw_below_drewN | apply below_drew1) | exact HB.out)) hb); clear HO202; clear HO206; clear HO209; clear HO213; clear HB; have HO202 := n0_; have HO206 := n1_; have HO209 := n2_; have HO213 := n3_; have HB := n4_; clear n0_ n1_ n2_ n3_ n4_; (try clear hb); (try clear hb2); (try clear hk); (try clear hi)))
        go_meet
        case rel => exact ⟨_, (true), (by first | rfl | (simp; done) | (simp [*]; done)), H', ⟨by first | omega | exact Nat.le_refl _⟩, ⟨by (with_reducible repeat (first | apply Kd.R_alloc | apply Kd.R_drewN | apply Kd.R_drew)); exact Kd.R_mono HO206.out (fun _ hk => ⟨hk.1.2, hk.2⟩)⟩, ⟨by (with_reducible repeat (first | apply Kd.R_alloc | apply Kd.R_drewN | apply Kd.R_drew)); exact Kd.R_mono HO209.out (fun _ hk => ⟨hk.1.2, hk.2⟩)⟩, ⟨by (with_reducible repeat (first | apply Kd.R_alloc | apply Kd.R_drewN | apply Kd.R_drew)); exact Kd.R_mono HO213.out (fun _ hk => ⟨hk.1.2, hk.2⟩)⟩, ⟨by repeat (first | (with_reducible first | exact HB.out | apply below_alloc | apply pw_below_drewN | apply below_drew1) | exact HB.out)⟩⟩
    case rest =>
      clear HC12
      try clear c1
      try clear c2
      try clear p2
      try clear c3
      try clear c7
      try clear c7b0
      try clear c9
      try clear c15
      try clear c17
      try clear c19
      try clear c20
      obtain ⟨kq, x56_11, rfl, HA, HJ11, HO_12, HO_14, HO_15, HB⟩ := hcut
      cases kq with
      | zero => exact absurd HA.out (by simp [laws_FnExactPayDebt.j0])
      | succ kj11 =>
        have H := HA.out
        clear HA
        simp only [laws_FnExactPayDebt.j0] at H
        by_cases c27 : x56_11 = true
        · subst c27
          have H1 : (some false) = some r := by rw [if_pos rfl] at H; exact H
          clear H
          have H := H1
          clear H1
          obtain rfl := Option.some.inj H
          cases ht
        · replace c27 := Bool.eq_false_iff.mpr c27
          subst c27
          have H1 : ((laws_toDebtS.f kj11 l1).bind fun t215 => ((laws_eqDebtS.f kj11 t207 t215).bind fun t218 => (if t218 = true then ((laws_markDebtS.f kj11 t207 1).bind fun bt219 => (if bt219.1 < 0 then (laws_FnExactPayDebt.j1 kj11 a0 l1 a2 a3 a4 t203 t204 t210 true) else ((laws_eqDebtS.f kj11 t210 t203).bind fun t221 => (if t221 = true then (laws_FnExactPayDebt.j1 kj11 a0 l1 a2 a3 a4 t203 t204 t210 (t211 != t204)) else (laws_FnExactPayDebt.j1 kj11 a0 l1 a2 a3 a4 t203 t204 t210 true))))) else (some false)))) = some r := by rw [if_neg (show ¬ (false = true) by decide)] at H; exact H
          clear H
          have H := H1
          clear H1
          replace H := Option.bind_eq_some_iff.mp H
          obtain ⟨t215, A280, H⟩ := H
          replace H : ((laws_eqDebtS.f kj11 t207 t215).bind fun t218 => (if t218 = true then ((laws_markDebtS.f kj11 t207 1).bind fun bt219 => (if bt219.1 < 0 then (laws_FnExactPayDebt.j1 kj11 a0 l1 a2 a3 a4 t203 t204 t210 true) else ((laws_eqDebtS.f kj11 t210 t203).bind fun t221 => (if t221 = true then (laws_FnExactPayDebt.j1 kj11 a0 l1 a2 a3 a4 t203 t204 t210 (t211 != t204)) else (laws_FnExactPayDebt.j1 kj11 a0 l1 a2 a3 a4 t203 t204 t210 true))))) else (some false))) = some r := H
          have A28 := Aside0.mk A280
          clear A280
          replace H := Option.bind_eq_some_iff.mp H
          obtain ⟨t218, A290, H⟩ := H
          replace H : (if t218 = true then ((laws_markDebtS.f kj11 t207 1).bind fun bt219 => (if bt219.1 < 0 then (laws_FnExactPayDebt.j1 kj11 a0 l1 a2 a3 a4 t203 t204 t210 true) else ((laws_eqDebtS.f kj11 t210 t203).bind fun t221 => (if t221 = true then (laws_FnExactPayDebt.j1 kj11 a0 l1 a2 a3 a4 t203 t204 t210 (t211 != t204)) else (laws_FnExactPayDebt.j1 kj11 a0 l1 a2 a3 a4 t203 t204 t210 true))))) else (some false)) = some r := H
          have A29 := Aside0.mk A290
          clear A290
          by_cases c30 : t218 = true
          · subst c30
            have H1 : ((laws_markDebtS.f kj11 t207 1).bind fun bt219 => (if bt219.1 < 0 then (laws_FnExactPayDebt.j1 kj11 a0 l1 a2 a3 a4 t203 t204 t210 true) else ((laws_eqDebtS.f kj11 t210 t203).bind fun t221 => (if t221 = true then (laws_FnExactPayDebt.j1 kj11 a0 l1 a2 a3 a4 t203 t204 t210 (t211 != t204)) else (laws_FnExactPayDebt.j1 kj11 a0 l1 a2 a3 a4 t203 t204 t210 true))))) = some r := by rw [if_pos rfl] at H; exact H
            clear H
            have H := H1
            clear H1
            replace H := Option.bind_eq_some_iff.mp H
            obtain ⟨⟨t219, t220⟩, A310, H⟩ := H
            replace H : (if t219 < 0 then (laws_FnExactPayDebt.j1 kj11 a0 l1 a2 a3 a4 t203 t204 t210 true) else ((laws_eqDebtS.f kj11 t210 t203).bind fun t221 => (if t221 = true then (laws_FnExactPayDebt.j1 kj11 a0 l1 a2 a3 a4 t203 t204 t210 (t211 != t204)) else (laws_FnExactPayDebt.j1 kj11 a0 l1 a2 a3 a4 t203 t204 t210 true)))) = some r := H
            have A31 := Aside0.mk A310
            clear A310
            have HC32 := Aside0.mk H
            clear H
            go_upto_region 14 with (first | ((with_reducible refine gate_callee (f := 17) rfl ?_); refine goesL_ (some 59) rfl rfl Try.func17 (by kernel_rfl) rfl #[.slice A1 l1.length c1] rfl (by (try simp only [List.map_toArray, List.map_cons, List.map_nil]); first | done | (go_simp; done) | rfl | (simp only [List.length_drop, List.length_take]; rfl)) ?_; (with_reducible refine (laws_toDebtS.calls kj11 _ _ l1 t215 _ ?side1 ?side2 A28.out).mono ?_); (case side1 => repeat (first | exact (Kd.C_below HR1.out HB.out) | (with_reducible refine Kd.C_alloc ?_ _) | (with_reducible refine Kd.C_drewN ?_ _) | (with_reducible refine Kd.C_drew ?_))); (case side2 => exact HC1.out); rintro e w33 ⟨v216, rfl, ho0, hb⟩; refine ⟨_, rfl, ?_⟩; have n0_ := Aside0.mk (Kd.R_elder' (by (with_reducible repeat (first | apply Kd.R_alloc | apply Kd.R_drewN | apply Kd.R_drew)); exact HO_12.out) (Kd.R_base ho0) hb); have n1_ := Aside0.mk (Kd.R_elder' (by (with_reducible repeat (first | apply Kd.R_alloc | apply Kd.R_drewN | apply Kd.R_drew)); exact HO_14.out) (Kd.R_base ho0) hb); have n2_ := Aside0.mk (Kd.R_elder' (by (with_reducible repeat (first | apply Kd.R_alloc | apply Kd.R_drewN | apply Kd.R_drew)); exact HO_15.out) (Kd.R_base ho0) hb); have n3_ := Aside0.mk (Kd.R_lower (Kd.R_new' (Kd.R_new' (Kd.R_new' ho0 (Kd.R_lt (by (with_reducible repeat (first | apply Kd.R_alloc | apply Kd.R_drewN | apply Kd.R_drew)); exact HO_12.out))) (Kd.R_lt (by (with_reducible repeat (first | apply Kd.R_alloc | apply Kd.R_drewN | apply Kd.R_drew)); exact HO_14.out))) (Kd.R_lt (by (with_reducible repeat (first | apply Kd.R_alloc | apply Kd.R_drewN | apply Kd.R_drew)); exact HO_15.out))) (below_size (by repeat (first | (with_reducible first | exact HB.out | apply below_alloc | apply pw_below_drewN | apply below_drew1) | exact HB.out)))); have n4_ := Aside0.mk (below_step (by repeat (first | (with_reducible first | exact HB.out | apply below_alloc | apply pw_below_drewN | apply below_drew1) | exact HB.out)) hb); clear HO_12; clear HO_14; clear HO_15; clear HB; have HO_12 := n0_; have HO_14 := n1_; have HO_15 := n2_; have HO217 := n3_; have HB := n4_; clear n0_ n1_ n2_ n3_ n4_; (try clear hb); (try clear hb2); (try clear hk); (try clear hi); (try clear ho0); obtain ⟨Ao34, co34, eo34⟩ := Kd.R_slice HO217.out; subst eo34) | ((with_reducible refine gate_callee (f := 19) rfl ?_); refine goesL_ (some 60) rfl rfl Try.func19 (by kernel_rfl) rfl #[.slice Ao17 t207.length co17, .slice Ao34 t215.length co34] rfl (by (try simp only [List.map_toArray, List.map_cons, List.map_nil]); first | done | (go_simp; done) | rfl | (simp only [List.length_drop, List.length_take]; rfl)) ?_; (with_reducible refine (laws_eqDebtS.calls kj11 _ _ t207 _ _ t215 true _ ?side1 ?side2 ?side3 ?side4 A29.out).mono ?_); (case side1 => repeat (first | exact (Kd.R_reads' HO_14.out).2.2 | (with_reducible refine Kd.C_alloc ?_ _) | (with_reducible refine Kd.C_drewN ?_ _) | (with_reducible refine Kd.C_drew ?_))); (case side2 => exact (Kd.R_reads' HO_14.out).2.1); (case side3 => repeat (first | exact (Kd.R_reads' HO217.out).2.2 | (with_reducible refine Kd.C_alloc ?_ _) | (with_reducible refine Kd.C_drewN ?_ _) | (with_reducible refine Kd.C_drew ?_))); (case side4 => exact (Kd.R_reads' HO217.out).2.1); rintro e w35 ⟨rfl, hb⟩; refine ⟨_, rfl, ?_⟩; have n0_ := Aside0.mk (Kd.R_below (by (with_reducible repeat (first | apply Kd.R_alloc | apply Kd.R_drewN | apply Kd.R_drew)); exact HO_12.out) hb); have n1_ := Aside0.mk (Kd.R_below (by (with_reducible repeat (first | apply Kd.R_alloc | apply Kd.R_drewN | apply Kd.R_drew)); exact HO_14.out) hb); have n2_ := Aside0.mk (Kd.R_below (by (with_reducible repeat (first | apply Kd.R_alloc | apply Kd.R_drewN | apply Kd.R_drew)); exact HO_15.out) hb); have n3_ := Aside0.mk (Kd.R_below (by (with_reducible repeat (first | apply Kd.R_alloc | apply Kd.R_drewN | apply Kd.R_drew)); exact HO217.out) hb); have n4_ := Aside0.mk (below_step (by repeat (first | (with_reducible first | exact HB.out | apply below_alloc | apply pw_below_drewN | apply below_drew1) | exact HB.out)) hb); clear HO_12; clear HO_14; clear HO_15; clear HO217; clear HB; have HO_12 := n0_; have HO_14 := n1_; have HO_15 := n2_; have HO217 := n3_; have HB := n4_; clear n0_ n1_ n2_ n3_ n4_; (try clear hb); (try clear hb2); (try clear hk); (try clear hi)) | ((with_reducible refine gate_callee (f := 22) rfl ?_); refine goesL_ (some 64) rfl rfl Try.func22 (by kernel_rfl) rfl #[.slice Ao17 t207.length co17, .int .i64 1] rfl (by (try simp only [List.map_toArray, List.map_cons, List.map_nil]); first | done | (go_simp; done) | rfl | (simp only [List.length_drop, List.length_take]; rfl)) ?_; (with_reducible refine (laws_markDebtS.calls kj11 (fun k_ => some k_ = (.slice Ao17 t207.length co17 : Value).ownBlock) (.slice Ao17 t207.length co17) t207 1 t219 t220 w _ ?side1 ?side2 A31.out).mono ?_); (case side1 => repeat (first | (with_reducible first | exact HB.out | apply below_alloc | apply pw_below_drewN | apply below_drew1) | exact HB.out)); (case side2 => exact Kd.R_tight rfl HO_14.out); rintro e w36 ⟨rfl, hy0, hb, hkp⟩; refine ⟨_, rfl, ?_⟩; have n0_ := Aside0.mk (Kd.R_mono (ok' := fun k_ => some k_ ≠ (.slice Ao17 t207.length co17 : Value).ownBlock ∧ some k_ ≠ (v212 : Value).ownBlock ∧ some k_ ≠ (.slice Ao34 t215.length co34 : Value).ownBlock) (Kd.R_keptB (HO_12.out) hkp (fun k_ hk_ hs_ => (hk_.1.1) hs_)) (fun k_ hk_ => ⟨hk_.1.1.1, hk_.1.1.2, hk_.1.2⟩)); have n1_ := Aside0.mk (Kd.R_reok rfl hy0 (fun k_ e_ => HO_14.out.1 k_ e_)); have n2_ := Aside0.mk (Kd.R_mono (ok' := fun k_ => some k_ ≠ (v205 : Value).ownBlock ∧ some k_ ≠ (.slice Ao17 t207.length co17 : Value).ownBlock ∧ some k_ ≠ (.slice Ao34 t215.length co34 : Value).ownBlock) (Kd.R_keptB (HO_15.out) hkp (fun k_ hk_ hs_ => (hk_.1.2) hs_)) (fun k_ hk_ => ⟨hk_.1.1.1, hk_.1.1.2, hk_.1.2⟩)); have n3_ := Aside0.mk (Kd.R_mono (ok' := fun k_ => some k_ ≠ (v205 : Value).ownBlock ∧ some k_ ≠ (.slice Ao17 t207.length co17 : Value).ownBlock ∧ some k_ ≠ (v212 : Value).ownBlock) (Kd.R_keptB (HO217.out) hkp (fun k_ hk_ hs_ => (hk_.1.2) hs_)) (fun k_ hk_ => ⟨hk_.1.1.1.2, hk_.1.1.2, hk_.1.2⟩)); have n4_ := Aside0.mk (hb); clear HO_12; clear HO_14; clear HO_15; clear HO217; clear HB; have HO_12 := n0_; have HO_14 := n1_; have HO_15 := n2_; have HO217 := n3_; have HB := n4_; clear n0_ n1_ n2_ n3_ n4_; (try clear hb); (try clear hkp); (try clear hy0)))
            (try simp only [Act.put, List.setIfInBounds_toArray, List.set_cons_zero, List.set_cons_succ])
            go_cut [77] (fun v77 wc => ∃ (kq : Nat) (x77_31 : Bool), v77 = .bool x77_31 ∧ Aside0 (laws_FnExactPayDebt.j1 kq a0 l1 a2 a3 a4 t203 t204 t210 x77_31 = some r) ∧ Aside0 (kq ≤ kj11) ∧ Aside0 (Kd.R k65 65 wc w.heap.size (fun k_ => some k_ ≠ (v212 : Value).ownBlock) v205 t203) ∧ Aside0 (Kd.R k65 65 wc w.heap.size (fun k_ => some k_ ≠ (v205 : Value).ownBlock) v212 t210) ∧ Aside0 (Below w.heap.size w wc))
            case first =>
              have H := HC32.out
              clear HC32
              by_cases c37 : t219 < 0
              · rw [if_pos c37] at H
                have c37b0 : decide (t219 < 0) = true := decide_eq_true c37
                clear c37
                (first | rw [c37b0] | (simp only [i64_w, i32_w]; rw [c37b0]) | skip)
                have H' := Aside0.mk H
                clear H
                go_wp2
                go_meet
                case rel => exact ⟨_, (true), (by first | rfl | (simp; done) | (simp [*]; done)), H', ⟨by have := HJ11.out; first | omega | exact Nat.le_refl _⟩, ⟨by (with_reducible repeat (first | apply Kd.R_alloc | apply Kd.R_drewN | apply Kd.R_drew)); exact Kd.R_mono HO_12.out (fun _ hk => hk.2.1)⟩, ⟨by (with_reducible repeat (first | apply Kd.R_alloc | apply Kd.R_drewN | apply Kd.R_drew)); exact Kd.R_mono HO_15.out (fun _ hk => hk.1)⟩, ⟨by repeat (first | (with_reducible first | exact HB.out | apply below_alloc | apply pw_below_drewN | apply below_drew1) | exact HB.out)⟩⟩
              · rw [if_neg c37] at H
                have c37b0 : decide (t219 < 0) = false := decide_eq_false c37
                clear c37
                (first | rw [c37b0] | (simp only [i64_w, i32_w]; rw [c37b0]) | skip)
                replace H := Option.bind_eq_some_iff.mp H
                obtain ⟨t221, A380, H⟩ := H
                replace H : (if t221 = true then (laws_FnExactPayDebt.j1 kj11 a0 l1 a2 a3 a4 t203 t204 t210 (t211 != t204)) else (laws_FnExactPayDebt.j1 kj11 a0 l1 a2 a3 a4 t203 t204 t210 true)) = some r := H
                have A38 := Aside0.mk A380
                clear A380
                by_cases c39 : t221 = true
                · subst c39
                  have H1 : (laws_FnExactPayDebt.j1 kj11 a0 l1 a2 a3 a4 t203 t204 t210 (t211 != t204)) = some r := by rw [if_pos rfl] at H; exact H
                  clear H
                  have H := H1
                  clear H1
                  have H' := Aside0.mk H
                  clear H
                  obtain ⟨Ao40, co40, eo40⟩ := Kd.R_slice HO_15.out
                  subst eo40
                  obtain ⟨Ao41, co41, eo41⟩ := Kd.R_slice HO_12.out
                  subst eo41
                  go_wp2_with (first | (go_at_call 19; (with_reducible refine (laws_eqDebtS.calls kj11 _ _ t210 _ _ t203 true _ ?side1 ?side2 ?side3 ?side4 A38.out).mono ?_); (case side1 => repeat (first | exact (Kd.R_reads' HO_15.out).2.2 | (with_reducible refine Kd.C_alloc ?_ _) | (with_reducible refine Kd.C_drewN ?_ _) | (with_reducible refine Kd.C_drew ?_))); (case side2 => exact (Kd.R_reads' HO_15.out).2.1); (case side3 => repeat (first | exact (Kd.R_reads' HO_12.out).2.2 | (with_reducible refine Kd.C_alloc ?_ _) | (with_reducible refine Kd.C_drewN ?_ _) | (with_reducible refine Kd.C_drew ?_))); (case side4 => exact (Kd.R_reads' HO_12.out).2.1); rintro e w42 ⟨rfl, hb⟩; have n0_ := Aside0.mk (Kd.R_below (by (with_reducible repeat (first | apply Kd.R_alloc | apply Kd.R_drewN | apply Kd.R_drew)); exact HO_12.out) hb); have n1_ := Aside0.mk (Kd.R_below (by (with_reducible repeat (first | apply Kd.R_alloc | apply Kd.R_drewN | apply Kd.R_drew)); exact HO_14.out) hb); have n2_ := Aside0.mk (Kd.R_below (by (with_reducible repeat (first | apply Kd.R_alloc | apply Kd.R_drewN | apply Kd.R_drew)); exact HO_15.out) hb); have n3_ := Aside0.mk (Kd.R_below (by (with_reducible repeat (first | apply Kd.R_alloc | apply Kd.R_drewN | apply Kd.R_drew)); exact HO217.out) hb); have n4_ := Aside0.mk (below_step (by repeat (first | (with_reducible first | exact HB.out | apply below_alloc | apply pw_below_drewN | apply below_drew1) | exact HB.out)) hb); clear HO_12; clear HO_14; clear HO_15; clear HO217; clear HB; have HO_12 := n0_; have HO_14 := n1_; have HO_15 := n2_; have HO217 := n3_; have HB := n4_; clear n0_ n1_ n2_ n3_ n4_; (try clear hb); (try clear hb2); (try clear hk); (try clear hi)))
                  go_meet
                  case rel => exact ⟨_, ((t211 != t204)), (by first | rfl | (simp; done) | (simp [*]; done)), H', ⟨by have := HJ11.out; first | omega | exact Nat.le_refl _⟩, ⟨by (with_reducible repeat (first | apply Kd.R_alloc | apply Kd.R_drewN | apply Kd.R_drew)); exact Kd.R_mono HO_12.out (fun _ hk => hk.2.1)⟩, ⟨by (with_reducible repeat (first | apply Kd.R_alloc | apply Kd.R_drewN | apply Kd.R_drew)); exact Kd.R_mono HO_15.out (fun _ hk => hk.1)⟩, ⟨by repeat (first | (with_reducible first | exact HB.out | apply below_alloc | apply pw_below_drewN | apply below_drew1) | exact HB.out)⟩⟩
                · replace c39 := Bool.eq_false_iff.mpr c39
                  subst c39
                  have H1 : (laws_FnExactPayDebt.j1 kj11 a0 l1 a2 a3 a4 t203 t204 t210 true) = some r := by rw [if_neg (show ¬ (false = true) by decide)] at H; exact H
                  clear H
                  have H := H1
                  clear H1
                  have H' := Aside0.mk H
                  clear H
                  obtain ⟨Ao43, co43, eo43⟩ := Kd.R_slice HO_15.out
                  subst eo43
                  obtain ⟨Ao44, co44, eo44⟩ := Kd.R_slice HO_12.out
                  subst eo44
                  go_wp2_with (first | (go_at_call 19; (with_reducible refine (laws_eqDebtS.calls kj11 _ _ t210 _ _ t203 false _ ?side1 ?side2 ?side3 ?side4 A38.out).mono ?_); (case side1 => repeat (first | exact (Kd.R_reads' HO_15.out).2.2 | (with_reducible refine Kd.C_alloc ?_ _) | (with_reducible refine Kd.C_drewN ?_ _) | (with_reducible refine Kd.C_drew ?_))); (case side2 => exact (Kd.R_reads' HO_15.out).2.1); (case side3 => repeat (first | exact (Kd.R_reads' HO_12.out).2.2 | (with_reducible refine Kd.C_alloc ?_ _) | (with_reducible refine Kd.C_drewN ?_ _) | (with_reducible refine Kd.C_drew ?_))); (case side4 => exact (Kd.R_reads' HO_12.out).2.1); rintro e w45 ⟨rfl, hb⟩; have n0_ := Aside0.mk (Kd.R_below (by (with_reducible repeat (first | apply Kd.R_alloc | apply Kd.R_drewN | apply Kd.R_drew)); exact HO_12.out) hb); have n1_ := Aside0.mk (Kd.R_below (by (with_reducible repeat (first | apply Kd.R_alloc | apply Kd.R_drewN | apply Kd.R_drew)); exact HO_14.out) hb); have n2_ := Aside0.mk (Kd.R_below (by (with_reducible repeat (first | apply Kd.R_alloc | apply Kd.R_drewN | apply Kd.R_drew)); exact HO_15.out) hb); have n3_ := Aside0.mk (Kd.R_below (by (with_reducible repeat (first | apply Kd.R_alloc | apply Kd.R_drewN | apply Kd.R_drew)); exact HO217.out) hb); have n4_ := Aside0.mk (below_step (by repeat (first | (with_reducible first | exact HB.out | apply below_alloc | apply pw_below_drewN | apply below_drew1) | exact HB.out)) hb); clear HO_12; clear HO_14; clear HO_15; clear HO217; clear HB; have HO_12 := n0_; have HO_14 := n1_; have HO_15 := n2_; have HO217 := n3_; have HB := n4_; clear n0_ n1_ n2_ n3_ n4_; (try clear hb); (try clear hb2); (try clear hk); (try clear hi)))
                  go_meet
                  case rel => exact ⟨_, (true), (by first | rfl | (simp; done) | (simp [*]; done)), H', ⟨by have := HJ11.out; first | omega | exact Nat.le_refl _⟩, ⟨by (with_reducible repeat (first | apply Kd.R_alloc | apply Kd.R_drewN | apply Kd.R_drew)); exact Kd.R_mono HO_12.out (fun _ hk => hk.2.1)⟩, ⟨by (with_reducible repeat (first | apply Kd.R_alloc | apply Kd.R_drewN | apply Kd.R_drew)); exact Kd.R_mono HO_15.out (fun _ hk => hk.1)⟩, ⟨by repeat (first | (with_reducible first | exact HB.out | apply below_alloc | apply pw_below_drewN | apply below_drew1) | exact HB.out)⟩⟩
            case rest =>
              clear HC32
              try clear c1
              try clear c2
              try clear p2
              try clear c3
              try clear c7
              try clear c7b0
              try clear c9
              try clear c15
              try clear c17
              try clear c19
              try clear c20
              try clear c22
              try clear c27
              try clear c30
              try clear c36
              try clear c37
              try clear c37b0
              try clear c39
              try clear p2
              obtain ⟨kq, x77_31, rfl, HA, HJ31, HO_12, HO_15, HB⟩ := hcut
              cases kq with
              | zero => exact absurd HA.out (by simp [laws_FnExactPayDebt.j1])
              | succ kj31 =>
                have H := HA.out
                clear HA
                simp only [laws_FnExactPayDebt.j1] at H
                by_cases c46 : x77_31 = true
                · subst c46
                  have H1 : (some false) = some r := by rw [if_pos rfl] at H; exact H
                  clear H
                  have H := H1
                  clear H1
                  obtain rfl := Option.some.inj H
                  cases ht
                · replace c46 := Bool.eq_false_iff.mpr c46
                  subst c46
                  have H1 : ((laws_markDebtS.f kj31 t210 1).bind fun bt222 => ((laws_heldDebtS.f kj31 bt222.2 1).bind fun t224 => (if t224 < 0 then (some false) else (if t224 = bt222.1 then ((laws_toDebtS.f kj31 l1).bind fun t225 => ((impl_PayDebt.f kj31 a0 t225 a2 a3 a4).bind fun bt228 => ((laws_eqDebtS.f kj31 bt228.1 t203).bind fun t232 => (if t232 = true then (laws_FnExactPayDebt.j2 kj31 bt222.2 bt222.1 (bt228.2 != t204)) else (laws_FnExactPayDebt.j2 kj31 bt222.2 bt222.1 true))))) else (some false))))) = some r := by rw [if_neg (show ¬ (false = true) by decide)] at H; exact H
                  clear H
                  have H := H1
                  clear H1
                  replace H := Option.bind_eq_some_iff.mp H
                  obtain ⟨⟨t222, t223⟩, A470, H⟩ := H
                  replace H : ((laws_heldDebtS.f kj31 t223 1).bind fun t224 => (if t224 < 0 then (some false) else (if t224 = t222 then ((laws_toDebtS.f kj31 l1).bind fun t225 => ((impl_PayDebt.f kj31 a0 t225 a2 a3 a4).bind fun bt228 => ((laws_eqDebtS.f kj31 bt228.1 t203).bind fun t232 => (if t232 = true then (laws_FnExactPayDebt.j2 kj31 t223 t222 (bt228.2 != t204)) else (laws_FnExactPayDebt.j2 kj31 t223 t222 true))))) else (some false)))) = some r := H
                  have A47 := Aside0.mk A470
                  clear A470
                  replace H := Option.bind_eq_some_iff.mp H
                  obtain ⟨t224, A480, H⟩ := H
                  replace H : (if t224 < 0 then (some false) else (if t224 = t222 then ((laws_toDebtS.f kj31 l1).bind fun t225 => ((impl_PayDebt.f kj31 a0 t225 a2 a3 a4).bind fun bt228 => ((laws_eqDebtS.f kj31 bt228.1 t203).bind fun t232 => (if t232 = true then (laws_FnExactPayDebt.j2 kj31 t223 t222 (bt228.2 != t204)) else (laws_FnExactPayDebt.j2 kj31 t223 t222 true))))) else (some false))) = some r := H
                  have A48 := Aside0.mk A480
                  clear A480
                  by_cases c49 : t224 < 0
                  · rw [if_pos c49] at H
                    have c49b0 : decide (t224 < 0) = true := decide_eq_true c49
                    clear c49
                    obtain rfl := Option.some.inj H
                    cases ht
                  · rw [if_neg c49] at H
                    have c49b0 : decide (t224 < 0) = false := decide_eq_false c49
                    clear c49
                    by_cases c50 : t224 = t222
                    · rw [if_pos c50] at H
                      have c50b0 : (t224 == t222) = true := beq_iff_eq.mpr c50
                      have c50b1 : (t224 != t222) = false := bne_eq_false_iff_eq.mpr c50
                      clear c50
                      replace H := Option.bind_eq_some_iff.mp H
                      obtain ⟨t225, A510, H⟩ := H
                      replace H : ((impl_PayDebt.f kj31 a0 t225 a2 a3 a4).bind fun bt228 => ((laws_eqDebtS.f kj31 bt228.1 t203).bind fun t232 => (if t232 = true then (laws_FnExactPayDebt.j2 kj31 t223 t222 (bt228.2 != t204)) else (laws_FnExactPayDebt.j2 kj31 t223 t222 true)))) = some r := H
                      have A51 := Aside0.mk A510
                      clear A510
                      replace H := Option.bind_eq_some_iff.mp H
                      obtain ⟨⟨t228, t229⟩, A520, H⟩ := H
                      replace H : ((laws_eqDebtS.f kj31 t228 t203).bind fun t232 => (if t232 = true then (laws_FnExactPayDebt.j2 kj31 t223 t222 (t229 != t204)) else (laws_FnExactPayDebt.j2 kj31 t223 t222 true))) = some r := H
                      have A52 := Aside0.mk A520
                      clear A520
                      have HC53 := Aside0.mk H
                      clear H
                      obtain ⟨Ao54, co54, eo54⟩ := Kd.R_slice HO_15.out
                      subst eo54
                      go_upto_region 25 with (first | ((with_reducible refine gate_callee (f := 22) rfl ?_); refine goesL_ (some 80) rfl rfl Try.func22 (by kernel_rfl) rfl #[.slice Ao54 t210.length co54, .int .i64 1] rfl (by (try simp only [List.map_toArray, List.map_cons, List.map_nil]); first | done | (go_simp; done) | rfl | (simp only [List.length_drop, List.length_take]; rfl)) ?_; (with_reducible refine (laws_markDebtS.calls kj31 (fun k_ => some k_ = (.slice Ao54 t210.length co54 : Value).ownBlock) (.slice Ao54 t210.length co54) t210 1 t222 t223 w _ ?side1 ?side2 A47.out).mono ?_); (case side1 => repeat (first | (with_reducible first | exact HB.out | apply below_alloc | apply pw_below_drewN | apply below_drew1) | exact HB.out)); (case side2 => exact Kd.R_tight rfl HO_15.out); rintro e w55 ⟨rfl, hy0, hb, hkp⟩; refine ⟨_, rfl, ?_⟩; have n0_ := Aside0.mk (Kd.R_mono (ok' := fun k_ => some k_ ≠ (.slice Ao54 t210.length co54 : Value).ownBlock) (Kd.R_keptB (HO_12.out) hkp (fun k_ hk_ hs_ => (hk_) hs_)) (fun k_ hk_ => hk_.1)); have n1_ := Aside0.mk (Kd.R_reok rfl hy0 (fun k_ e_ => HO_15.out.1 k_ e_)); have n2_ := Aside0.mk (hb); clear HO_12; clear HO_15; clear HB; have HO_12 := n0_; have HO_15 := n1_; have HB := n2_; clear n0_ n1_ n2_; (try clear hb); (try clear hkp); (try clear hy0)) | ((with_reducible refine gate_callee (f := 23) rfl ?_); refine goesL_ (some 83) rfl rfl Try.func23 (by kernel_rfl) rfl #[.slice Ao54 t223.length co54, .int .i64 1] rfl (by (try simp only [List.map_toArray, List.map_cons, List.map_nil]); first | done | (rw [show t223.length = t210.length from (Kd.R_reads' HO_15.out).1.symm] <;> rfl) | (go_simp; done) | rfl | (simp only [List.length_drop, List.length_take]; rfl)) ?_; (with_reducible refine (laws_heldDebtS.calls kj31 _ _ t223 1 t224 _ ?side1 ?side2 A48.out).mono ?_); (case side1 => repeat (first | exact (Kd.R_reads' HO_15.out).2.2 | (with_reducible refine Kd.C_alloc ?_ _) | (with_reducible refine Kd.C_drewN ?_ _) | (with_reducible refine Kd.C_drew ?_))); (case side2 => rw [show t223.length = t210.length from (Kd.R_reads' HO_15.out).1.symm]; exact (Kd.R_reads' HO_15.out).2.1); rintro e w' ⟨rfl, ⟨nd, rfl⟩⟩; refine ⟨_, rfl, ?_⟩) | ((with_reducible refine gate_callee (f := 17) rfl ?_); refine goesL_ (some 92) rfl rfl Try.func17 (by kernel_rfl) rfl #[.slice A1 l1.length c1] rfl (by (try simp only [List.map_toArray, List.map_cons, List.map_nil]); first | done | (go_simp; done) | rfl | (simp only [List.length_drop, List.length_take]; rfl)) ?_; (with_reducible refine (laws_toDebtS.calls kj31 _ _ l1 t225 _ ?side1 ?side2 A51.out).mono ?_); (case side1 => repeat (first | exact (Kd.C_below HR1.out (by repeat (first | (with_reducible first | exact HB.out | apply below_alloc | apply pw_below_drewN | apply below_drew1) | exact HB.out))) | (with_reducible refine Kd.C_alloc ?_ _) | (with_reducible refine Kd.C_drewN ?_ _) | (with_reducible refine Kd.C_drew ?_))); (case side2 => exact HC1.out); rintro e w56 ⟨v226, rfl, ho0, hb⟩; refine ⟨_, rfl, ?_⟩; have n0_ := Aside0.mk (Kd.R_elder' (by (with_reducible repeat (first | apply Kd.R_alloc | apply Kd.R_drewN | apply Kd.R_drew)); exact HO_12.out) (Kd.R_base ho0) hb); have n1_ := Aside0.mk (Kd.R_elder' (by (with_reducible repeat (first | apply Kd.R_alloc | apply Kd.R_drewN | apply Kd.R_drew)); exact HO_15.out) (Kd.R_base ho0) hb); have n2_ := Aside0.mk (Kd.R_lower (Kd.R_new' (Kd.R_new' ho0 (Kd.R_lt (by (with_reducible repeat (first | apply Kd.R_alloc | apply Kd.R_drewN | apply Kd.R_drew)); exact HO_12.out))) (Kd.R_lt (by (with_reducible repeat (first | apply Kd.R_alloc | apply Kd.R_drewN | apply Kd.R_drew)); exact HO_15.out))) (below_size (by repeat (first | (with_reducible first | exact HB.out | apply below_alloc | apply pw_below_drewN | apply below_drew1) | exact HB.out)))); have n3_ := Aside0.mk (below_step (by repeat (first | (with_reducible first | exact HB.out | apply below_alloc | apply pw_below_drewN | apply below_drew1) | exact HB.out)) hb); clear HO_12; clear HO_15; clear HB; have HO_12 := n0_; have HO_15 := n1_; have HO227 := n2_; have HB := n3_; clear n0_ n1_ n2_ n3_; (try clear hb); (try clear hb2); (try clear hk); (try clear hi); (try clear ho0); obtain ⟨Ao57, co57, eo57⟩ := Kd.R_slice HO227.out; subst eo57) | ((with_reducible refine gate_callee (f := 37) rfl ?_); refine goesL_ (some 96) rfl rfl Try.func37 (by kernel_rfl) rfl #[.int .i64 a0, .slice Ao57 t225.length co57, .int .i64 a2, .int .i64 a3, .int .i64 a4] rfl (by (try simp only [List.map_toArray, List.map_cons, List.map_nil]); first | done | (go_simp; done) | rfl | (simp only [List.length_drop, List.length_take]; rfl)) ?_; (with_reducible refine (impl_PayDebt.calls kj31 a0 _ _ t225 a2 a3 a4 t228 t229 _ ?side1 ?side2 A52.out).mono ?_); (case side1 => repeat (first | exact (Kd.R_reads' HO227.out).2.2 | (with_reducible refine Kd.C_alloc ?_ _) | (with_reducible refine Kd.C_drewN ?_ _) | (with_reducible refine Kd.C_drew ?_))); (case side2 => exact (Kd.R_reads' HO227.out).2.1); rintro e w58 ⟨v230, rfl, ho0, hb⟩; refine ⟨_, rfl, ?_⟩; have n0_ := Aside0.mk (Kd.R_elder' (by (with_reducible repeat (first | apply Kd.R_alloc | apply Kd.R_drewN | apply Kd.R_drew)); exact HO_12.out) (Kd.R_base ho0) hb); have n1_ := Aside0.mk (Kd.R_elder' (by (with_reducible repeat (first | apply Kd.R_alloc | apply Kd.R_drewN | apply Kd.R_drew)); exact HO_15.out) (Kd.R_base ho0) hb); have n2_ := Aside0.mk (Kd.R_elder' (by (with_reducible repeat (first | apply Kd.R_alloc | apply Kd.R_drewN | apply Kd.R_drew)); exact HO227.out) (Kd.R_base ho0) hb); have n3_ := Aside0.mk (Kd.R_lower (Kd.R_new' (Kd.R_new' (Kd.R_new' ho0 (Kd.R_lt (by (with_reducible repeat (first | apply Kd.R_alloc | apply Kd.R_drewN | apply Kd.R_drew)); exact HO_12.out))) (Kd.R_lt (by (with_reducible repeat (first | apply Kd.R_alloc | apply Kd.R_drewN | apply Kd.R_drew)); exact HO_15.out))) (Kd.R_lt (by (with_reducible repeat (first | apply Kd.R_alloc | apply Kd.R_drewN | apply Kd.R_drew)); exact HO227.out))) (below_size (by repeat (first | (with_reducible first | exact HB.out | apply below_alloc | apply pw_below_drewN | apply below_drew1) | exact HB.out)))); have n4_ := Aside0.mk (below_step (by repeat (first | (with_reducible first | exact HB.out | apply below_alloc | apply pw_below_drewN | apply below_drew1) | exact HB.out)) hb); clear HO_12; clear HO_15; clear HO227; clear HB; have HO_12 := n0_; have HO_15 := n1_; have HO227 := n2_; have HO231 := n3_; have HB := n4_; clear n0_ n1_ n2_ n3_ n4_; (try clear hb); (try clear hb2); (try clear hk); (try clear hi); (try clear ho0)))
                      (try simp only [Act.put, List.setIfInBounds_toArray, List.set_cons_zero, List.set_cons_succ])
                      go_cut [107] (fun v107 wc => ∃ (kq : Nat) (x107_52 : Bool), v107 = .bool x107_52 ∧ Aside0 (laws_FnExactPayDebt.j2 kq t223 t222 x107_52 = some r) ∧ Aside0 (kq ≤ kj31) ∧ Aside0 (Kd.R k65 65 wc w.heap.size (fun _ => True) (.slice Ao54 t210.length co54) t223) ∧ Aside0 (Below w.heap.size w wc))
                      case first =>
                        have H := HC53.out
                        clear HC53
                        replace H := Option.bind_eq_some_iff.mp H
                        obtain ⟨t232, A590, H⟩ := H
                        replace H : (if t232 = true then (laws_FnExactPayDebt.j2 kj31 t223 t222 (t229 != t204)) else (laws_FnExactPayDebt.j2 kj31 t223 t222 true)) = some r := H
                        have A59 := Aside0.mk A590
                        clear A590
                        by_cases c60 : t232 = true
                        · subst c60
                          have H1 : (laws_FnExactPayDebt.j2 kj31 t223 t222 (t229 != t204)) = some r := by rw [if_pos rfl] at H; exact H
                          clear H
                          have H := H1
                          clear H1
                          have H' := Aside0.mk H
                          clear H
                          obtain ⟨Ao61, co61, eo61⟩ := Kd.R_slice HO231.out
                          subst eo61
                          obtain ⟨Ao62, co62, eo62⟩ := Kd.R_slice HO_12.out
                          subst eo62
                          go_wp2_with (first | ((with_reducible refine gate_callee (f := 19) rfl ?_); refine goesL_ (some 101) rfl rfl Try.func19 (by kernel_rfl) rfl #[.slice Ao61 t228.length co61, .slice Ao62 t203.length co62] rfl (by (try simp only [List.map_toArray, List.map_cons, List.map_nil]); first | done | (go_simp; done) | rfl | (simp only [List.length_drop, List.length_take]; rfl)) ?_; (with_reducible refine (laws_eqDebtS.calls kj31 _ _ t228 _ _ t203 true _ ?side1 ?side2 ?side3 ?side4 A59.out).mono ?_); (case side1 => repeat (first | exact (Kd.R_reads' HO231.out).2.2 | (with_reducible refine Kd.C_alloc ?_ _) | (with_reducible refine Kd.C_drewN ?_ _) | (with_reducible refine Kd.C_drew ?_))); (case side2 => exact (Kd.R_reads' HO231.out).2.1); (case side3 => repeat (first | exact (Kd.R_reads' HO_12.out).2.2 | (with_reducible refine Kd.C_alloc ?_ _) | (with_reducible refine Kd.C_drewN ?_ _) | (with_reducible refine Kd.C_drew ?_))); (case side4 => exact (Kd.R_reads' HO_12.out).2.1); rintro e w63 ⟨rfl, hb⟩; refine ⟨_, rfl, ?_⟩; have n0_ := Aside0.mk (Kd.R_below (by (with_reducible repeat (first | apply Kd.R_alloc | apply Kd.R_drewN | apply Kd.R_drew)); exact HO_12.out) hb); have n1_ := Aside0.mk (Kd.R_below (by (with_reducible repeat (first | apply Kd.R_alloc | apply Kd.R_drewN | apply Kd.R_drew)); exact HO_15.out) hb); have n2_ := Aside0.mk (Kd.R_below (by (with_reducible repeat (first | apply Kd.R_alloc | apply Kd.R_drewN | apply Kd.R_drew)); exact HO227.out) hb); have n3_ := Aside0.mk (Kd.R_below (by (with_reducible repeat (first | apply Kd.R_alloc | apply Kd.R_drewN | apply Kd.R_drew)); exact HO231.out) hb); have n4_ := Aside0.mk (below_step (by repeat (first | (with_reducible first | exact HB.out | apply below_alloc | apply pw_below_drewN | apply below_drew1) | exact HB.out)) hb); clear HO_12; clear HO_15; clear HO227; clear HO231; clear HB; have HO_12 := n0_; have HO_15 := n1_; have HO227 := n2_; have HO231 := n3_; have HB := n4_; clear n0_ n1_ n2_ n3_ n4_; (try clear hb); (try clear hb2); (try clear hk); (try clear hi)))
                          go_meet
                          case rel => exact ⟨_, ((t229 != t204)), (by first | rfl | (simp; done) | (simp [*]; done)), H', ⟨by have := HJ11.out; have := HJ31.out; first | omega | exact Nat.le_refl _⟩, ⟨by (with_reducible repeat (first | apply Kd.R_alloc | apply Kd.R_drewN | apply Kd.R_drew)); exact Kd.R_mono HO_15.out (fun _ hk => trivial)⟩, ⟨by repeat (first | (with_reducible first | exact HB.out | apply below_alloc | apply pw_below_drewN | apply below_drew1) | exact HB.out)⟩⟩
                        · replace c60 := Bool.eq_false_iff.mpr c60
                          subst c60
                          have H1 : (laws_FnExactPayDebt.j2 kj31 t223 t222 true) = some r := by rw [if_neg (show ¬ (false = true) by decide)] at H; exact H
                          clear H
                          have H := H1
                          clear H1
                          have H' := Aside0.mk H
                          clear H
                          obtain ⟨Ao64, co64, eo64⟩ := Kd.R_slice HO231.out
                          subst eo64
                          obtain ⟨Ao65, co65, eo65⟩ := Kd.R_slice HO_12.out
                          subst eo65
                          go_wp2_with (first | ((with_reducible refine gate_callee (f := 19) rfl ?_); refine goesL_ (some 101) rfl rfl Try.func19 (by kernel_rfl) rfl #[.slice Ao64 t228.length co64, .slice Ao65 t203.length co65] rfl (by (try simp only [List.map_toArray, List.map_cons, List.map_nil]); first | done | (go_simp; done) | rfl | (simp only [List.length_drop, List.length_take]; rfl)) ?_; (with_reducible refine (laws_eqDebtS.calls kj31 _ _ t228 _ _ t203 false _ ?side1 ?side2 ?side3 ?side4 A59.out).mono ?_); (case side1 => repeat (first | exact (Kd.R_reads' HO231.out).2.2 | (with_reducible refine Kd.C_alloc ?_ _) | (with_reducible refine Kd.C_drewN ?_ _) | (with_reducible refine Kd.C_drew ?_))); (case side2 => exact (Kd.R_reads' HO231.out).2.1); (case side3 => repeat (first | exact (Kd.R_reads' HO_12.out).2.2 | (with_reducible refine Kd.C_alloc ?_ _) | (with_reducible refine Kd.C_drewN ?_ _) | (with_reducible refine Kd.C_drew ?_))); (case side4 => exact (Kd.R_reads' HO_12.out).2.1); rintro e w66 ⟨rfl, hb⟩; refine ⟨_, rfl, ?_⟩; have n0_ := Aside0.mk (Kd.R_below (by (with_reducible repeat (first | apply Kd.R_alloc | apply Kd.R_drewN | apply Kd.R_drew)); exact HO_12.out) hb); have n1_ := Aside0.mk (Kd.R_below (by (with_reducible repeat (first | apply Kd.R_alloc | apply Kd.R_drewN | apply Kd.R_drew)); exact HO_15.out) hb); have n2_ := Aside0.mk (Kd.R_below (by (with_reducible repeat (first | apply Kd.R_alloc | apply Kd.R_drewN | apply Kd.R_drew)); exact HO227.out) hb); have n3_ := Aside0.mk (Kd.R_below (by (with_reducible repeat (first | apply Kd.R_alloc | apply Kd.R_drewN | apply Kd.R_drew)); exact HO231.out) hb); have n4_ := Aside0.mk (below_step (by repeat (first | (with_reducible first | exact HB.out | apply below_alloc | apply pw_below_drewN | apply below_drew1) | exact HB.out)) hb); clear HO_12; clear HO_15; clear HO227; clear HO231; clear HB; have HO_12 := n0_; have HO_15 := n1_; have HO227 := n2_; have HO231 := n3_; have HB := n4_; clear n0_ n1_ n2_ n3_ n4_; (try clear hb); (try clear hb2); (try clear hk); (try clear hi)))
                          go_meet
                          case rel => exact ⟨_, (true), (by first | rfl | (simp; done) | (simp [*]; done)), H', ⟨by have := HJ11.out; have := HJ31.out; first | omega | exact Nat.le_refl _⟩, ⟨by (with_reducible repeat (first | apply Kd.R_alloc | apply Kd.R_drewN | apply Kd.R_drew)); exact Kd.R_mono HO_15.out (fun _ hk => trivial)⟩, ⟨by repeat (first | (with_reducible first | exact HB.out | apply below_alloc | apply pw_below_drewN | apply below_drew1) | exact HB.out)⟩⟩
                      case rest =>
                        clear HC53
                        try clear c1
                        try clear c2
                        try clear p2
                        try clear c3
                        try clear c4
                        try clear c5
                        try clear c6
                        try clear c7
                        try clear c7b0
                        try clear c9
                        try clear c15
                        try clear c17
                        try clear c19
                        try clear c20
                        try clear c22
                        try clear c23
                        try clear c27
                        try clear c30
                        try clear c36
                        try clear c37
                        try clear c37b0
                        try clear c39
                        try clear c46
                        try clear c49
                        try clear c49b0
                        try clear c50
                        try clear c50b0
                        try clear c50b1
                        try clear c60
                        try clear p2
                        obtain ⟨kq, x107_52, rfl, HA, HJ52, HO_15, HB⟩ := hcut
                        have hl15_52 := (Kd.R_reads' HO_15.out).1
                        rw [hl15_52] at HO_15
                        (try simp only [hl15_52])
                        cases kq with
                        | zero => exact absurd HA.out (by simp [laws_FnExactPayDebt.j2])
                        | succ kj52 =>
                          have H := HA.out
                          clear HA
                          simp only [laws_FnExactPayDebt.j2] at H
                          by_cases c67 : x107_52 = true
                          · subst c67
                            have H1 : (some false) = some r := by rw [if_pos rfl] at H; exact H
                            clear H
                            have H := H1
                            clear H1
                            obtain rfl := Option.some.inj H
                            cases ht
                          · replace c67 := Bool.eq_false_iff.mpr c67
                            subst c67
                            have H1 : ((laws_heldDebtS.f kj52 t223 1).bind fun t233 => (if t233 < 0 then (some false) else (if t233 = t222 then (some true) else (some false)))) = some r := by rw [if_neg (show ¬ (false = true) by decide)] at H; exact H
                            clear H
                            have H := H1
                            clear H1
                            replace H := Option.bind_eq_some_iff.mp H
                            obtain ⟨t233, A680, H⟩ := H
                            replace H : (if t233 < 0 then (some false) else (if t233 = t222 then (some true) else (some false))) = some r := H
                            have A68 := Aside0.mk A680
                            clear A680
                            by_cases c69 : t233 < 0
                            · rw [if_pos c69] at H
                              have c69b0 : decide (t233 < 0) = true := decide_eq_true c69
                              clear c69
                              obtain rfl := Option.some.inj H
                              cases ht
                            · rw [if_neg c69] at H
                              have c69b0 : decide (t233 < 0) = false := decide_eq_false c69
                              clear c69
                              by_cases c70 : t233 = t222
                              · rw [if_pos c70] at H
                                have c70b0 : (t233 == t222) = true := beq_iff_eq.mpr c70
                                have c70b1 : (t233 != t222) = false := bne_eq_false_iff_eq.mpr c70
                                clear c70
                                obtain rfl := Option.some.inj H
                                go_wp2_with (first | ((with_reducible refine gate_callee (f := 23) rfl ?_); refine goesL_ (some 110) rfl rfl Try.func23 (by kernel_rfl) rfl #[.slice Ao54 t223.length co54, .int .i64 1] rfl (by (try simp only [List.map_toArray, List.map_cons, List.map_nil]); first | done | (go_simp; done) | rfl | (simp only [List.length_drop, List.length_take]; rfl)) ?_; (with_reducible refine (laws_heldDebtS.calls kj52 _ _ t223 1 t233 _ ?side1 ?side2 A68.out).mono ?_); (case side1 => repeat (first | exact (Kd.R_reads' HO_15.out).2.2 | (with_reducible refine Kd.C_alloc ?_ _) | (with_reducible refine Kd.C_drewN ?_ _) | (with_reducible refine Kd.C_drew ?_))); (case side2 => exact (Kd.R_reads' HO_15.out).2.1); rintro e w' ⟨rfl, ⟨nd, rfl⟩⟩; refine ⟨_, rfl, ?_⟩))
                                go_ret
                                exact ⟨by first | rfl | (simp [errW_none, errW_some] <;> rfl) | (simp [*, errW_none, errW_some] <;> rfl), by repeat (first | (with_reducible first | exact HB.out | apply below_alloc | apply pw_below_drewN | apply below_drew1) | exact HB.out)⟩
                              · rw [if_neg c70] at H
                                have c70b0 : (t233 == t222) = false := beq_eq_false_iff_ne.mpr c70
                                have c70b1 : (t233 != t222) = true := bne_iff_ne.mpr c70
                                obtain rfl := Option.some.inj H
                                cases ht
                    · rw [if_neg c50] at H
                      have c50b0 : (t224 == t222) = false := beq_eq_false_iff_ne.mpr c50
                      have c50b1 : (t224 != t222) = true := bne_iff_ne.mpr c50
                      obtain rfl := Option.some.inj H
                      cases ht
          · replace c30 := Bool.eq_false_iff.mpr c30
            subst c30
            have H1 : (some false) = some r := by rw [if_neg (show ¬ (false = true) by decide)] at H; exact H
            clear H
            have H := H1
            clear H1
            obtain rfl := Option.some.inj H
            cases ht

end Go.Proofs.Ytofcgkcpkngocaa.MPayDebt
