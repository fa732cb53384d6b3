-- by a program of this session, for this claim
import Derived.Test.YtcghnnhhgngddaaDoorMSettledx0
import Derived.Test.YtcghnnhhgngddaaDoorMSettledx2
import Derived.Test.YtcghnnhhgngddaaDoorMSettledx3
namespace Go.Proofs.YtcghnnhhgngddaaDoor.MSettled
open Go.RowKit Go.Proofs.YtcghnnhhgngddaaDoorW.PrintWords Go.Proofs.YtcghnnhhgngddaaDoorW.PrintLast Go.Proofs.YtcghnnhhgngddaaDoorW.PrintMore
attribute [local go_sem] max2_int min2_int max_two min_two max_three min_three max_four min_four   -- for this text's walks alone
set_option linter.unusedVariables false
set_option linter.unusedSimpArgs false

/-! ### spec_ZeroGroups: function 6 -/
def spec_ZeroGroups.f (k : Nat) (l0 : List Int) : Option (Int × Int) := (spec_l02Zero.f k l0).bind fun t126 => (if t126 = true then ((spec_l02Open.f k l0).bind fun t127 => (if (t127.length : Int) > 10 then (some (0, 3)) else ((spec_l02Groups.f k l0 t127).bind fun t130 => (if 0 ≤ (wrap64 ((t130.length : Int) - 1)) then (if (wrap64 ((t130.length : Int) - 1)) < (t130.length : Int) then (some (rd t130 (wrap64 ((t130.length : Int) - 1)), 0)) else (none)) else (none))))) else (some (0, 1)))
theorem spec_ZeroGroups.mono : ∀ a0 k, LeO (spec_ZeroGroups.f k a0) (spec_ZeroGroups.f (k + 1) a0) := by
  intro a0 k; unfold spec_ZeroGroups.f
  with_reducible repeat' first | exact spec_l02Groups.mono _ _ _ | exact spec_l02Open.mono _ _ | exact spec_l02Zero.mono _ _ | exact LeO.refl _ | exact LeO.none _ | refine LeO.ite ?_ ?_ | refine LeO.bind ?_ (fun _ => ?_)
set_option maxHeartbeats 8000000 in
set_option maxRecDepth 100000 in
theorem spec_ZeroGroups.calls (k : Nat) (A0 : Option Addr) (c0 : Nat) (l0 : List Int) (r1 : Int) (r2 : Int) (w : World) (hr0 : Kd.C (Kd.int .i64) w A0 l0.length l0) (hc0 : l0.length ≤ c0) (h : spec_ZeroGroups.f k l0 = some (r1, r2)) :
    Calls Tryd.prog 6 #[.slice A0 l0.length c0] w fun e w' => e = .returned (.tuple #[.int .i64 r1, .int .i64 r2]) ∧ Below w.heap.size w w' := by
  have HR0 := Aside0.mk hr0; have HC0 := Aside0.mk hc0; clear hr0 hc0; have HB := Aside0.mk (Below.refl w.heap.size w); have H : ((spec_l02Zero.f k l0).bind fun t126 => (if t126 = true then ((spec_l02Open.f k l0).bind fun t127 => (if (t127.length : Int) > 10 then (some (0, 3)) else ((spec_l02Groups.f k l0 t127).bind fun t130 => (if 0 ≤ (wrap64 ((t130.length : Int) - 1)) then (if (wrap64 ((t130.length : Int) - 1)) < (t130.length : Int) then (some (rd t130 (wrap64 ((t130.length : Int) - 1)), 0)) else (none)) else (none))))) else (some (0, 1)))) = some (r1, r2) := h; clear h; replace H := Option.bind_eq_some_iff.mp H; obtain ⟨t126, A20, H⟩ := H;  have A2 := Aside0.mk A20; clear A20; by_cases c3 : t126 = true
  · subst c3; (have H1 : ((spec_l02Open.f k l0).bind fun t127 => (if (t127.length : Int) > 10 then (some (0, 3)) else ((spec_l02Groups.f k l0 t127).bind fun t130 => (if 0 ≤ (wrap64 ((t130.length : Int) - 1)) then (if (wrap64 ((t130.length : Int) - 1)) < (t130.length : Int) then (some (rd t130 (wrap64 ((t130.length : Int) - 1)), 0)) else (none)) else (none))))) = some (r1, r2) := z34_); clear H; have H := H1; clear H1; replace H := Option.bind_eq_some_iff.mp H; obtain ⟨t127, A40, H⟩ := H;  have A4 := Aside0.mk A40; clear A40; by_cases c5 : (t127.length : Int) > 10
    · rw [if_pos c5] at H; have c5b0 : decide (10 < (t127.length : Int)) = true := decide_eq_true c5; have c5b1 : decide (10 < t127.length) = true := decide_eq_true (by omega); clear c5; simp only [Option.some.injEq, Prod.mk.injEq] at H; obtain ⟨rfl, rfl⟩ := H; go_enter Tryd.func6, Tryd.ntmps6; go_wp2_with (first | ((with_reducible refine gate_callee (f := 22) rfl ?_); refine goesL_ (some 7) rfl rfl Tryd.func22 z7_ rfl #[.slice A0 l0.length c0] rfl z2_ ?_; (with_reducible refine (spec_l02Zero.calls k _ _ l0 true _ ?side1 ?side2 A2.out).mono ?_); (case side1 => repeat (first | exact HR0.out | (with_reducible refine Kd.C_alloc ?_ _) | (with_reducible refine Kd.C_drewN ?_ _) | (with_reducible refine Kd.C_drew ?_))); (case side2 => exact HC0.out); rintro e w' ⟨rfl, ⟨nd, rfl⟩⟩; refine ⟨_, rfl, ?_⟩) | ((with_reducible refine gate_callee (f := 23) rfl ?_); refine goesL_ (some 10) rfl rfl Tryd.func23 z7_ rfl #[.slice A0 l0.length c0] rfl z2_ ?_; (with_reducible refine (spec_l02Open.calls k _ _ l0 t127 _ ?side1 ?side2 A4.out).mono ?_); (case side1 => repeat (first | exact HR0.out | (with_reducible refine Kd.C_alloc ?_ _) | (with_reducible refine Kd.C_drewN ?_ _) | (with_reducible refine Kd.C_drew ?_))); (case side2 => exact HC0.out); rintro e w6 ⟨v128, rfl, ho0, hb⟩; refine ⟨_, rfl, ?_⟩; have HO129 := Aside0.mk (Kd.R_lower ho0 (below_size z0_)); replace HB := Aside0.mk (below_step z0_ hb); (try clear hb); (try clear ho0); obtain ⟨Ao7, co7, eo7⟩ := Kd.R_slice HO129.out; subst eo7)); go_ret2; exact ⟨z6_, z0_⟩
    · rw [if_neg c5] at H; have c5b0 : decide (10 < (t127.length : Int)) = false := decide_eq_false c5; have c5b1 : decide (10 < t127.length) = false := decide_eq_false (by omega); clear c5; replace H := Option.bind_eq_some_iff.mp H; obtain ⟨t130, A80, H⟩ := H;  have A8 := Aside0.mk A80; clear A80; obtain ⟨ji9, hji9⟩ : ∃ j_ : Int, (wrap64 ((t130.length : Int) - 1)) = j_ := ⟨_, rfl⟩; (replace H : (if 0 ≤ (ji9) then (if (ji9) < (t130.length : Int) then (some (rd t130 (ji9), 0)) else (none)) else (none)) = some (r1, r2) := by first | (rw [hji9] at H; exact H) | (simp only [hji9] at H ⊢; exact H)); (try rw [hji9] at A2); (try rw [hji9] at A4); (try rw [hji9] at A8); have hji9w : (IntKind.i64.wrap ((t130.length : Int) - 1)) = ji9 := (i64_w _).trans hji9; by_cases c10 : 0 ≤ (ji9)
      · rw [if_pos c10] at H; have c10b0 : decide (0 ≤ (ji9)) = true := decide_eq_true c10; clear c10; by_cases c11 : (ji9) < (t130.length : Int)
        · rw [if_pos c11] at H; have c11b0 : decide ((ji9) < (t130.length : Int)) = true := decide_eq_true c11; clear c11; simp only [Option.some.injEq, Prod.mk.injEq] at H; obtain ⟨rfl, rfl⟩ := H; go_enter Tryd.func6, Tryd.ntmps6; go_wp2_with (first | ((with_reducible refine gate_callee (f := 22) rfl ?_); refine goesL_ (some 7) rfl rfl Tryd.func22 z7_ rfl #[.slice A0 l0.length c0] rfl z2_ ?_; (with_reducible refine (spec_l02Zero.calls k _ _ l0 true _ ?side1 ?side2 A2.out).mono ?_); (case side1 => repeat (first | exact HR0.out | (with_reducible refine Kd.C_alloc ?_ _) | (with_reducible refine Kd.C_drewN ?_ _) | (with_reducible refine Kd.C_drew ?_))); (case side2 => exact HC0.out); rintro e w' ⟨rfl, ⟨nd, rfl⟩⟩; refine ⟨_, rfl, ?_⟩) | ((with_reducible refine gate_callee (f := 23) rfl ?_); refine goesL_ (some 10) rfl rfl Tryd.func23 z7_ rfl #[.slice A0 l0.length c0] rfl z2_ ?_; (with_reducible refine (spec_l02Open.calls k _ _ l0 t127 _ ?side1 ?side2 A4.out).mono ?_); (case side1 => repeat (first | exact HR0.out | (with_reducible refine Kd.C_alloc ?_ _) | (with_reducible refine Kd.C_drewN ?_ _) | (with_reducible refine Kd.C_drew ?_))); (case side2 => exact HC0.out); rintro e w12 ⟨v128, rfl, ho0, hb⟩; refine ⟨_, rfl, ?_⟩; have HO129 := Aside0.mk (Kd.R_lower ho0 (below_size z0_)); replace HB := Aside0.mk (below_step z0_ hb); (try clear hb); (try clear ho0); obtain ⟨Ao13, co13, eo13⟩ := Kd.R_slice HO129.out; subst eo13) | ((with_reducible refine gate_callee (f := 24) rfl ?_); refine goesL_ (some 16) rfl rfl Tryd.func24 z7_ rfl #[.slice A0 l0.length c0, .slice Ao13 t127.length co13] rfl z2_ ?_; (with_reducible refine (spec_l02Groups.calls k _ _ l0 _ _ t127 t130 _ ?side1 ?side2 ?side3 ?side4 A8.out).mono ?_); (case side1 => repeat (first | exact (Kd.C_below HR0.out HB.out) | (with_reducible refine Kd.C_alloc ?_ _) | (with_reducible refine Kd.C_drewN ?_ _) | (with_reducible refine Kd.C_drew ?_))); (case side2 => exact HC0.out); (case side3 => repeat (first | exact (Kd.R_reads' HO129.out).2.2 | (with_reducible refine Kd.C_alloc ?_ _) | (with_reducible refine Kd.C_drewN ?_ _) | (with_reducible refine Kd.C_drew ?_))); (case side4 => exact (Kd.R_reads' HO129.out).2.1); rintro e w14 ⟨v131, rfl, ho0, hb⟩; refine ⟨_, rfl, ?_⟩; have HO132 := Aside0.mk (Kd.R_lower (Kd.R_new' ho0 (Kd.R_lt (by (with_reducible repeat (first | apply Kd.R_alloc | apply Kd.R_drewN | apply Kd.R_drew)); exact HO129.out))) (below_size z0_)); replace HO129 := Aside0.mk (Kd.R_elder' (by (with_reducible repeat (first | apply Kd.R_alloc | apply Kd.R_drewN | apply Kd.R_drew)); exact HO129.out) (Kd.R_base ho0) hb); replace HB := Aside0.mk (below_step z0_ hb); (try clear hb); (try clear ho0); obtain ⟨Ao15, co15, eo15⟩ := Kd.R_slice HO132.out; subst eo15; have p133 : 0 ≤ ((ji9) : Int) := of_decide_eq_true z1_; have q133 : (ji9) < (t130.length : Int) := of_decide_eq_true z1_; obtain ⟨ad133, e133, hx133_0⟩ := Kd.at_int (Kd.R_reads' HO132.out).2.2 (ji9) p133 q133; cases e133; replace p133 := eq_true p133; replace q133 := eq_true q133)); go_ret2; exact ⟨by first | rfl | (simp [errW_none, errW_some] <;> rfl) | (simp only [← hji9]; first | rfl | (simp [errW_none, errW_some] <;> rfl)) | (simp [*, errW_none, errW_some] <;> rfl), z0_⟩
        · rw [if_neg c11] at H; exact absurd H (by simp)
      · rw [if_neg c10] at H; exact absurd H (by simp)
  · replace c3 := Bool.eq_false_iff.mpr c3; subst c3; (have H1 : (some (0, 1)) = some (r1, r2) := z19_); clear H; have H := H1; clear H1; simp only [Option.some.injEq, Prod.mk.injEq] at H; obtain ⟨rfl, rfl⟩ := H; go_enter Tryd.func6, Tryd.ntmps6; go_wp2_with (first | ((with_reducible refine gate_callee (f := 22) rfl ?_); refine goesL_ (some 7) rfl rfl Tryd.func22 z7_ rfl #[.slice A0 l0.length c0] rfl z2_ ?_; (with_reducible refine (spec_l02Zero.calls k _ _ l0 false _ ?side1 ?side2 A2.out).mono ?_); (case side1 => repeat (first | exact HR0.out | (with_reducible refine Kd.C_alloc ?_ _) | (with_reducible refine Kd.C_drewN ?_ _) | (with_reducible refine Kd.C_drew ?_))); (case side2 => exact HC0.out); rintro e w' ⟨rfl, ⟨nd, rfl⟩⟩; refine ⟨_, rfl, ?_⟩)); go_ret2; exact ⟨z6_, z0_⟩

/-! ### impl_areNets: function 36 -/
mutual
def impl_areNets.j0 : Nat → List Int → Bool → Option (Bool)
  | 0, _, _ => none
  | k + 1, x0, x13 => if x13 = true then (some false) else (impl_areNets.l0 k 0 x0 (x0.length : Int) 0)
def impl_areNets.l0 : Nat → Int → List Int → Int → Int → Option (Bool)
  | 0, _, _, _, _ => none
  | k + 1, x3, x14, x15, x16 => if x16 < x15 then (if 0 ≤ x16 then (if x16 < (x14.length : Int) then (if (rd x14 x16) < (-100000000) then (some false) else (if (rd x14 x16) > 100000000 then (some false) else (impl_areNets.l0 k (wrap64 (x3 + (rd x14 x16))) x14 x15 (wrap64 (x16 + 1))))) else (none)) else (none)) else (some (x3 == 0))
end
def impl_areNets.f (k : Nat) (l0 : List Int) : Option (Bool) := if (l0.length : Int) < 1 then (impl_areNets.j0 k l0 true) else (impl_areNets.j0 k l0 (decide ((l0.length : Int) > 16)))
theorem impl_areNets.mono_l : ∀ k, (∀ y0 y1, LeO (impl_areNets.j0 k y0 y1) (impl_areNets.j0 (k + 1) y0 y1)) ∧ (∀ y0 y1 y2 y3, LeO (impl_areNets.l0 k y0 y1 y2 y3) (impl_areNets.l0 (k + 1) y0 y1 y2 y3))
  | 0 => ⟨fun _ _ r h => by simp [impl_areNets.j0] at h, fun _ _ _ _ r h => by simp [impl_areNets.l0] at h⟩
  | k + 1 => by
    obtain ⟨ih0, ih1⟩ := impl_areNets.mono_l k
    refine ⟨?_, ?_⟩
    · intro y0 y1
      unfold impl_areNets.j0
      with_reducible repeat' first | exact ih0 _ _ | exact ih1 _ _ _ _ | exact LeO.refl _ | exact LeO.none _ | refine LeO.ite ?_ ?_ | refine LeO.bind ?_ (fun _ => ?_)
    · intro y0 y1 y2 y3
      unfold impl_areNets.l0
      with_reducible repeat' first | exact ih0 _ _ | exact ih1 _ _ _ _ | exact LeO.refl _ | exact LeO.none _ | refine LeO.ite ?_ ?_ | refine LeO.bind ?_ (fun _ => ?_)
theorem impl_areNets.mono : ∀ a0 k, LeO (impl_areNets.f k a0) (impl_areNets.f (k + 1) a0) := by
  intro a0 k; obtain ⟨ih0, ih1⟩ := impl_areNets.mono_l k; unfold impl_areNets.f
  with_reducible repeat' first | exact ih0 _ _ | exact ih1 _ _ _ _ | exact LeO.refl _ | exact LeO.none _ | refine LeO.ite ?_ ?_ | refine LeO.bind ?_ (fun _ => ?_)
set_option maxHeartbeats 8000000 in
set_option maxRecDepth 100000 in
theorem impl_areNets.calls (k : Nat) (A0 : Option Addr) (c0 : Nat) (l0 : List Int) (r : Bool) (w : World) (hr0 : Kd.C (Kd.int .i64) w A0 l0.length l0) (hc0 : l0.length ≤ c0) (h : impl_areNets.f k l0 = some r) :
    Calls Tryd.prog 36 #[.slice A0 l0.length c0] w fun e w' => e = .returned (.bool r) ∧ Drawn0 w w' := by
  have HR0 := Aside0.mk hr0; have HC0 := Aside0.mk hc0; clear hr0 hc0; have H : (if (l0.length : Int) < 1 then (impl_areNets.j0 k l0 true) else (impl_areNets.j0 k l0 (decide ((l0.length : Int) > 16)))) = some r := h; clear h; have HC2 := Aside0.mk H; clear H; go_enter Tryd.func36, Tryd.ntmps36; go_upto_region 1 with (fail); go_cut [13] (fun v13 wc => ∃ (kq : Nat) (x13_1 : Bool), v13 = .bool x13_1 ∧ Aside0 (impl_areNets.j0 kq l0 x13_1 = some r) ∧ Aside0 (kq ≤ k) ∧ Drawn0 w wc)
  case first =>
    have H := HC2.out; clear HC2; by_cases c3 : (l0.length : Int) < 1
    · rw [if_pos c3] at H; have c3b0 : decide ((l0.length : Int) < 1) = true := decide_eq_true c3; have c3b1 : decide (l0.length < 1) = true := decide_eq_true (by omega); clear c3; (first | rw [c3b0] | (simp only [i64_w, i32_w]; rw [c3b0]) | skip); have H' := Aside0.mk H; clear H; go_wp2; go_meet
      case rel => exact ⟨_, (true), z3_, H', ⟨z40_⟩, z11_⟩
    · rw [if_neg c3] at H; have c3b0 : decide ((l0.length : Int) < 1) = false := decide_eq_false c3; have c3b1 : decide (l0.length < 1) = false := decide_eq_false (by omega); clear c3; (first | rw [c3b0] | (simp only [i64_w, i32_w]; rw [c3b0]) | skip); have H' := Aside0.mk H; clear H; go_wp2; go_meet
      case rel => exact ⟨_, (decide ((l0.length : Int) > 16)), z3_, H', ⟨z40_⟩, z11_⟩
  case rest =>
    clear HC2; (try clear p2); (try clear c3); (try clear c3b0); (try clear c3b1); obtain ⟨kq, x13_1, rfl, HA, HJ1, ⟨mc1, rfl⟩⟩ := hcut
    cases kq with
    | zero => exact absurd HA.out (by simp [impl_areNets.j0])
    | succ kj1 =>
      have H := HA.out; clear HA; simp only [impl_areNets.j0] at H; by_cases c4 : x13_1 = true
      · subst c4; (have H1 : (some false) = some r := z34_); clear H; have H := H1; clear H1; obtain rfl := Option.some.inj H; go_wp2; go_ret; exact ⟨z3_, z11_⟩
      · replace c4 := Bool.eq_false_iff.mpr c4; subst c4; (have H1 : (impl_areNets.l0 kj1 0 l0 (l0.length : Int) 0) = some r := z19_); clear H; have H := H1; clear H1; have H' := Aside0.mk H; clear H; go_wp2; go_loopg [3, 16] kj1 (fun kq v3 v16 w' => ∃ (x3_2 : Int) (x16_2 : Int), v3 = .int .i64 x3_2 ∧ v16 = .int .i64 x16_2 ∧ Aside0 (impl_areNets.l0 kq x3_2 l0 (l0.length : Int) x16_2 = some r) ∧ Aside0 (kq ≤ kj1) ∧ Drawn0 w w')
        case atStart => exact ⟨(0), (0), z3_, z3_, H', ⟨Nat.le_refl _⟩, z11_⟩
        case round =>
          clear H'; (try clear c1); (try clear p2); (try clear c3); (try clear c3b0); (try clear c3b1); (try clear c4); (try clear p2); obtain ⟨x3_2, x16_2, rfl, rfl, HA, HK2, ⟨m2, rfl⟩⟩ := hrel
          cases gk with
          | zero => exact absurd HA.out (by simp [impl_areNets.l0])
          | succ k2 =>
            have H := HA.out; clear HA; simp only [impl_areNets.l0] at H; by_cases c5 : x16_2 < (l0.length : Int)
            · rw [if_pos c5] at H; have c5b0 : decide (x16_2 < (l0.length : Int)) = true := decide_eq_true c5; clear c5; by_cases c6 : 0 ≤ x16_2
              · rw [if_pos c6] at H; have c6b0 : decide (0 ≤ x16_2) = true := decide_eq_true c6; clear c6; by_cases c7 : x16_2 < (l0.length : Int)
                · rw [if_pos c7] at H; have c7b0 : decide (x16_2 < (l0.length : Int)) = true := decide_eq_true c7; clear c7; by_cases c8 : (rd l0 x16_2) < (-100000000)
                  · rw [if_pos c8] at H; have c8b0 : decide ((rd l0 x16_2) < (-100000000)) = true := decide_eq_true c8; clear c8; obtain rfl := Option.some.inj H; have p134 : 0 ≤ (x16_2 : Int) := of_decide_eq_true z1_; have q134 : x16_2 < (l0.length : Int) := of_decide_eq_true z1_; obtain ⟨ad134, e134, hx134_0⟩ := Kd.at_int HR0.out x16_2 p134 q134; cases e134; replace p134 := eq_true p134; replace q134 := eq_true q134; go_wp2; go_ret; exact ⟨z3_, z11_⟩
                  · rw [if_neg c8] at H; have c8b0 : decide ((rd l0 x16_2) < (-100000000)) = false := decide_eq_false c8; clear c8; by_cases c9 : (rd l0 x16_2) > 100000000
                    · rw [if_pos c9] at H; have c9b0 : decide (100000000 < (rd l0 x16_2)) = true := decide_eq_true c9; clear c9; obtain rfl := Option.some.inj H; have p134 : 0 ≤ (x16_2 : Int) := of_decide_eq_true z1_; have q134 : x16_2 < (l0.length : Int) := of_decide_eq_true z1_; obtain ⟨ad134, e134, hx134_0⟩ := Kd.at_int HR0.out x16_2 p134 q134; cases e134; replace p134 := eq_true p134; replace q134 := eq_true q134; go_wp2; go_ret; exact ⟨z3_, z11_⟩
                    · rw [if_neg c9] at H; have c9b0 : decide (100000000 < (rd l0 x16_2)) = false := decide_eq_false c9; clear c9; have H' := Aside0.mk H; clear H; have p134 : 0 ≤ (x16_2 : Int) := of_decide_eq_true z1_; have q134 : x16_2 < (l0.length : Int) := of_decide_eq_true z1_; obtain ⟨ad134, e134, hx134_0⟩ := Kd.at_int HR0.out x16_2 p134 q134; cases e134; replace p134 := eq_true p134; replace q134 := eq_true q134; go_wp2; go_roundg k2
                      case measure => have := HJ1.out; have := HK2.out; omega
                      case rel => exact ⟨(wrap64 (x3_2 + (rd l0 x16_2))), (wrap64 (x16_2 + 1)), z3_, z3_, H', ⟨by have := HJ1.out; have := HK2.out; omega⟩, z11_⟩
                · rw [if_neg c7] at H; exact absurd H (by simp)
              · rw [if_neg c6] at H; exact absurd H (by simp)
            · rw [if_neg c5] at H; have c5b0 : decide (x16_2 < (l0.length : Int)) = false := decide_eq_false c5; clear c5; obtain rfl := Option.some.inj H; go_wp2; go_ret; exact ⟨z3_, z11_⟩

/-! ### bits_TrailingZeros: function 43 -/
def bits_TrailingZeros.f (a0 : Int) : Option (Int) := if 0 < a0 ∧ a0 < 18446744073709551616 then some ((Lib.ctz 64 a0.toNat : Nat) : Int) else none
set_option maxHeartbeats 8000000 in
set_option maxRecDepth 100000 in
theorem bits_TrailingZeros.calls (a0 : Int) (r : Int) (w : World) (hT : Tt.TT w) (h : bits_TrailingZeros.f a0 = some r) :
    Calls Tryd.prog 43 #[.int .u64 a0] w fun e w' => e = .returned (.int .i64 r) ∧ Below w.heap.size w w' := by
  unfold bits_TrailingZeros.f at h; split at h
  · rename_i hc; injection h with h; subst h; exact Tt.tz_call 43 rfl a0 w hT hc.1 hc.2
  · cases h

end Go.Proofs.YtcghnnhhgngddaaDoor.MSettled
