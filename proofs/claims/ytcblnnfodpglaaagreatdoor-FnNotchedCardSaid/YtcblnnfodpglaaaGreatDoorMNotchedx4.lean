-- by a program of this session, for this claim
import Derived.Test.YtcblnnfodpglaaaGreatDoorMNotchedx0
import Derived.Test.YtcblnnfodpglaaaGreatDoorMNotchedx2
import Derived.Test.YtcblnnfodpglaaaGreatDoorMNotchedx3
namespace Go.Proofs.YtcblnnfodpglaaaGreatDoor.MNotched
open Go.RowKit Go.Proofs.YtcblnnfodpglaaaGreatDoorW.PrintWords Go.Proofs.YtcblnnfodpglaaaGreatDoorW.PrintLast Go.Proofs.YtcblnnfodpglaaaGreatDoorW.PrintMore
attribute [local go_sem] max2_int min2_int max_two min_two max_three min_three max_four min_four   -- for this text's walks alone
set_option linter.unusedVariables false
set_option linter.unusedSimpArgs false

/-! ### spec_l01Worths: function 65 -/
def spec_l01Worths.f  : Option (List Int) := some (([1, 12, 240, 4800, 24000, 240000] : List Int))
set_option maxHeartbeats 8000000 in
set_option maxRecDepth 100000 in
theorem spec_l01Worths.calls  (r : List Int) (w : World) (h : spec_l01Worths.f  = some r) :
    Calls Tryz.prog 65 #[] w fun e w' => ∃ v0_ : Value, e = .returned (v0_) ∧ Kd.R (Kd.int .i64) 2 w' w.heap.size (fun _ => True) v0_ r ∧ Below w.heap.size w w' := by
  have HB := Aside0.mk (Below.refl w.heap.size w); have H : (some (([1, 12, 240, 4800, 24000, 240000] : List Int))) = some r := h; clear h; obtain ⟨y127, hy127⟩ : ∃ y_ : List Int, y_ = (([1, 12, 240, 4800, 24000, 240000] : List Int)) := ⟨_, rfl⟩; (replace H : (some y127) = some r := by first | (rw [hy127]; with_reducible exact H) | (have H2_ := (Option.bind_some _ _).symm.trans H; rw [hy127]; with_reducible exact H2_) | (have H2_ := (Option.bind_some _ _).symm.trans H; with_reducible exact H2_) | with_reducible exact H | (rw [hy127]; exact H) | exact H); have Ny127 := Aside0.mk hy127; clear hy127; obtain rfl := Option.some.inj H; go_enter Tryz.func65, Tryz.ntmps65; go_wp2_with (first | ((with_reducible refine gate_dst (N := 1) rfl ?_); refine Kd.R_lit (Kd.int .i64) _ 2 ?hg (N := 1) ?hd (xs := ([1, 12, 240, 4800, 24000, 240000] : List Int)) (inner := [.int .i64 1, .int .i64 12, .int .i64 240, .int .i64 4800, .int .i64 24000, .int .i64 240000]) (ok := fun _ => True) (okp := fun _ => True) ?hr ?hp (fun _ hk => hk) trivial (Below.refl _ _) (Nat.le_refl _) (by simp) ?_; (case hd => rfl); (case hg => rfl); (case hr => first | (go_simp; done) | (go_simp; rfl)); (case hp => exact (Reps.one (show Kd.M (Kd.int .i64) _ _ _ 1 [.int .i64 1] from rfl) (Reps.one (show Kd.M (Kd.int .i64) _ _ _ 12 [.int .i64 12] from rfl) (Reps.one (show Kd.M (Kd.int .i64) _ _ _ 240 [.int .i64 240] from rfl) (Reps.one (show Kd.M (Kd.int .i64) _ _ _ 4800 [.int .i64 4800] from rfl) (Reps.one (show Kd.M (Kd.int .i64) _ _ _ 24000 [.int .i64 24000] from rfl) (Reps.one (show Kd.M (Kd.int .i64) _ _ _ 240000 [.int .i64 240000] from rfl) (Reps.none _ _)))))))); intro v128 w1 ho2 hb hg_ hnew_; clear hg_ hnew_; (first | rw [← Ny127.out] at ho2 | (simp only [Int.reduceToNat] at ho2; rw [← Ny127.out] at ho2)); have HO129 := Aside0.mk (Kd.R_lower ho2 (below_size z0_)); replace HB := Aside0.mk (below_step z0_ hb); clear hb ho2)); go_ret; exact ⟨_, z6_, by (with_reducible repeat (first | apply Kd.R_alloc | apply Kd.R_drewN | apply Kd.R_drew)); exact HO129.out, z0_⟩

/-! ### spec_l01For: function 51 -/
mutual
def spec_l01For.l0 : Nat → Int → List (S60) → Int → Int → Option ((List (S60)) × Bool)
  | 0, _, _, _, _ => none
  | k + 1, x0, x4, x5, x6 => if x6 ≥ 0 then ((spec_l01Worths.f).bind fun t134 => (if 0 ≤ x6 then (if x6 < (t134.length : Int) then (spec_l01For.l1 k x0 x4 x5 x6 (rd t134 x6)) else (none)) else (none))) else ((spec_l01Notches.f k x4).bind fun t133 => (some (x4, t133)))
def spec_l01For.l1 : Nat → Int → List (S60) → Int → Int → Int → Option ((List (S60)) × Bool)
  | 0, _, _, _, _, _ => none
  | k + 1, x0, x4, x5, x6, x7 => if x0 ≥ x7 then (if x5 > 200 then (some (x4, false)) else (if x4.length < 35184372088832 then ((spec_l01Widths.f).bind fun t141 => (if 0 ≤ x6 then (if x6 < (t141.length : Int) then (spec_l01For.l1 k (wrap64 (x0 - x7)) (x4 ++ [(⟨IntKind.i8.wrap (x6), IntKind.i16.wrap (x5)⟩ : S60)]) (wrap64 (x5 + (wrap64 ((rd t141 x6) + 1)))) x6 x7) else (none)) else (none))) else (none))) else (spec_l01For.l0 k x0 x4 x5 (wrap64 (x6 - 1)))
end
def spec_l01For.f (k : Nat) (a0 : Int) : Option ((List (S60)) × Bool) := spec_l01For.l0 k a0 (([] : List (S60))) 0 5
theorem spec_l01For.mono_l : ∀ k, (∀ y0 y1 y2 y3, LeO (spec_l01For.l0 k y0 y1 y2 y3) (spec_l01For.l0 (k + 1) y0 y1 y2 y3)) ∧ (∀ y0 y1 y2 y3 y4, LeO (spec_l01For.l1 k y0 y1 y2 y3 y4) (spec_l01For.l1 (k + 1) y0 y1 y2 y3 y4))
  | 0 => ⟨fun _ _ _ _ r h => by simp [spec_l01For.l0] at h, fun _ _ _ _ _ r h => by simp [spec_l01For.l1] at h⟩
  | k + 1 => by
    obtain ⟨ih0, ih1⟩ := spec_l01For.mono_l k
    refine ⟨?_, ?_⟩
    · intro y0 y1 y2 y3
      unfold spec_l01For.l0
      with_reducible repeat' first | exact ih0 _ _ _ _ | exact ih1 _ _ _ _ _ | exact spec_l01Notches.mono _ _ | exact LeO.refl _ | exact LeO.none _ | refine LeO.ite ?_ ?_ | refine LeO.bind ?_ (fun _ => ?_)
    · intro y0 y1 y2 y3 y4
      unfold spec_l01For.l1
      with_reducible repeat' first | exact ih0 _ _ _ _ | exact ih1 _ _ _ _ _ | exact spec_l01Notches.mono _ _ | exact LeO.refl _ | exact LeO.none _ | refine LeO.ite ?_ ?_ | refine LeO.bind ?_ (fun _ => ?_)
theorem spec_l01For.mono : ∀ a0 k, LeO (spec_l01For.f k a0) (spec_l01For.f (k + 1) a0) := by
  intro a0 k; obtain ⟨ih0, ih1⟩ := spec_l01For.mono_l k; unfold spec_l01For.f
  with_reducible repeat' first | exact ih0 _ _ _ _ | exact ih1 _ _ _ _ _ | exact spec_l01Notches.mono _ _ | exact LeO.refl _ | exact LeO.none _ | refine LeO.ite ?_ ?_ | refine LeO.bind ?_ (fun _ => ?_)
set_option maxHeartbeats 8000000 in
set_option maxRecDepth 100000 in
theorem spec_l01For.calls (k : Nat) (a0 : Int) (r1 : List (S60)) (r2 : Bool) (w : World) (h : spec_l01For.f k a0 = some (r1, r2)) :
    Calls Tryz.prog 51 #[.int .i64 a0] w fun e w' => ∃ v0_ : Value, e = .returned (.tuple #[v0_, .bool r2]) ∧ Kd.R k60 60 w' w.heap.size (fun _ => True) v0_ r1 ∧ Below w.heap.size w w' := by
  have hu60 := Tryz.underlying60; have HB := Aside0.mk (Below.refl w.heap.size w); have H : (spec_l01For.l0 k a0 (([] : List (S60))) 0 5) = some (r1, r2) := h; clear h; obtain ⟨y130, hy130⟩ : ∃ y_ : List (S60), y_ = (([] : List (S60))) := ⟨_, rfl⟩; (replace H : (spec_l01For.l0 k a0 y130 0 5) = some (r1, r2) := by first | (rw [hy130]; with_reducible exact H) | (have H2_ := (Option.bind_some _ _).symm.trans H; rw [hy130]; with_reducible exact H2_) | (have H2_ := (Option.bind_some _ _).symm.trans H; with_reducible exact H2_) | with_reducible exact H | (rw [hy130]; exact H) | exact H); have Ny130 := Aside0.mk hy130; clear hy130; have H' := Aside0.mk H; clear H; go_enter Tryz.func51, Tryz.ntmps51; go_wp2_with (first | ((with_reducible refine gate_dst (N := 8) rfl ?_); refine Kd.R_lit k60 _ 60 ?hg (N := 8) ?hd (xs := ([] : List (S60))) (inner := []) (ok := fun _ => True) (okp := fun _ => True) ?hr ?hp (fun _ hk => hk) trivial (Below.refl _ _) (Nat.le_refl _) (by simp) ?_; (case hd => rfl); (case hg => rfl); (case hr => first | (go_simp; done) | (go_simp; rfl)); (case hp => exact (Reps.none _ _)); intro v131 w2 ho3 hb hg_ hnew_; clear hg_ hnew_; (first | rw [← Ny130.out] at ho3 | (simp only [Int.reduceToNat] at ho3; rw [← Ny130.out] at ho3)); have HO132 := Aside0.mk (Kd.R_lower ho3 (below_size z0_)); replace HB := Aside0.mk (below_step z0_ hb); clear hb ho3)); go_loopg [0, 4, 5, 6] k (fun kq v0 v4 v5 v6 w' => ∃ (x0_1 : Int) (x4_1 : List (S60)) (x5_1 : Int) (x6_1 : Int), v0 = .int .i64 x0_1 ∧ v5 = .int .i64 x5_1 ∧ v6 = .int .i64 x6_1 ∧ Aside0 (spec_l01For.l0 kq x0_1 x4_1 x5_1 x6_1 = some (r1, r2)) ∧ Aside0 (kq ≤ k) ∧ Aside0 (Kd.R k60 60 w' w.heap.size (fun _ => True) v4 x4_1) ∧ Aside0 (Below w.heap.size w w'))
  case atStart => exact ⟨(a0), (y130), (0), (5), z9_, z9_, z9_, H', ⟨Nat.le_refl _⟩, ⟨by (with_reducible repeat (first | apply Kd.R_alloc | apply Kd.R_drewN | apply Kd.R_drew)); exact HO132.out⟩, ⟨z0_⟩⟩
  case round =>
    clear H'; (try clear p2); obtain ⟨x0_1, x4_1, x5_1, x6_1, rfl, rfl, rfl, HA, HK1, HO_4, HB⟩ := hrel
    cases gk with
    | zero => exact absurd HA.out (by simp [spec_l01For.l0])
    | succ k1 =>
      have H := HA.out; clear HA; simp only [spec_l01For.l0] at H; by_cases c4 : x6_1 ≥ 0
      ·rw [if_pos c4] at H; have c4b0 : decide (0 ≤ x6_1) = true := decide_eq_true c4; clear c4; replace H := Option.bind_eq_some_iff.mp H; obtain ⟨t134, A50, H⟩ := H;  have A5 := Aside0.mk A50; clear A50; by_cases c6 : 0 ≤ x6_1
       ·rw [if_pos c6] at H; have c6b0 : decide (0 ≤ x6_1) = true := decide_eq_true c6; clear c6; by_cases c7 : x6_1 < (t134.length : Int)
        ·rw [if_pos c7] at H; have c7b0 : decide (x6_1 < (t134.length : Int)) = true := decide_eq_true c7; clear c7; have H' := Aside0.mk H; clear H; go_wp2_with (first | ((with_reducible refine gate_callee (f := 65) rfl ?_); refine goesL_ (some 13) rfl rfl Tryz.func65 z8_ rfl #[] rfl z1_ ?_; (with_reducible refine (spec_l01Worths.calls  t134 _ A5.out).mono ?_); rintro e w8 ⟨v135, rfl, ho0, hb⟩; refine ⟨_, rfl, ?_⟩; replace HO_4 := Aside0.mk (Kd.R_below z64_ hb); have HO136 := Aside0.mk (Kd.R_lower ho0 (below_size z0_)); replace HB := Aside0.mk (below_step z0_ hb); (try clear hb); (try clear ho0); obtain ⟨Ao9, co9, eo9⟩ := Kd.R_slice HO136.out; subst eo9; have p137 : 0 ≤ (x6_1 : Int) := of_decide_eq_true z2_; have q137 : x6_1 < (t134.length : Int) := of_decide_eq_true z2_; obtain ⟨ad137, e137, hx137_0⟩ := Kd.at_int (Kd.R_reads' HO136.out).2.2 x6_1 p137 q137; cases e137; replace p137 := eq_true p137; replace q137 := eq_true q137)); go_loopg [0, 4, 5] k1 (fun kq v0 v4 v5 w' => ∃ (x0_2 : Int) (x4_2 : List (S60)) (x5_2 : Int), v0 = .int .i64 x0_2 ∧ v5 = .int .i64 x5_2 ∧ Aside0 (spec_l01For.l1 kq x0_2 x4_2 x5_2 x6_1 (rd t134 x6_1) = some (r1, r2)) ∧ Aside0 (kq ≤ k1) ∧ Aside0 (Kd.R k60 60 w' w.heap.size (fun _ => True) v4 x4_2) ∧ Aside0 (Below w.heap.size w w'))
         case atStart => exact ⟨(x0_1), (x4_1), (x5_1), z9_, z9_, H', ⟨Nat.le_refl _⟩, ⟨z64_⟩, ⟨z0_⟩⟩
         case round =>
           clear H'; (try clear p1); (try clear q1); (try clear hx1); (try clear p2); (try clear c4); (try clear c4b0); (try clear c5); (try clear c6); (try clear c6b0); (try clear c7); (try clear c7b0); (try clear hx137_0); (try clear p137); (try clear p2); (try clear q137); obtain ⟨x0_2, x4_2, x5_2, rfl, rfl, HA, HK2, HO_4, HB⟩ := hrel
           cases gk with
           | zero => exact absurd HA.out (by simp [spec_l01For.l1])
           | succ k2 =>
             have H := HA.out; clear HA; simp only [spec_l01For.l1] at H; by_cases c10 : x0_2 ≥ (rd t134 x6_1)
             ·rw [if_pos c10] at H; have c10b0 : decide ((rd t134 x6_1) ≤ x0_2) = true := decide_eq_true c10; clear c10; by_cases c11 : x5_2 > 200
              ·rw [if_pos c11] at H; have c11b0 : decide (200 < x5_2) = true := decide_eq_true c11; clear c11; simp only [Option.some.injEq, Prod.mk.injEq] at H; obtain ⟨rfl, rfl⟩ := H; go_wp2; go_ret2; exact ⟨_, z6_, z64_, z0_⟩
              ·rw [if_neg c11] at H; have c11b0 : decide (200 < x5_2) = false := decide_eq_false c11; clear c11; by_cases c12 : x4_2.length < 35184372088832
               ·rw [if_pos c12] at H; have LMc12 := Aside0.mk c12; clear c12; obtain ⟨y138, hy138⟩ : ∃ y_ : List (S60), y_ = (x4_2 ++ [(⟨IntKind.i8.wrap (x6_1), IntKind.i16.wrap (x5_2)⟩ : S60)]) := ⟨_, rfl⟩; (replace H : ((spec_l01Widths.f).bind fun t141 => (if 0 ≤ x6_1 then (if x6_1 < (t141.length : Int) then (spec_l01For.l1 k2 (wrap64 (x0_2 - (rd t134 x6_1))) y138 (wrap64 (x5_2 + (wrap64 ((rd t141 x6_1) + 1)))) x6_1 (rd t134 x6_1)) else (none)) else (none))) = some (r1, r2) := by first | (rw [hy138]; with_reducible exact H) | (have H2_ := (Option.bind_some _ _).symm.trans H; rw [hy138]; with_reducible exact H2_) | (have H2_ := (Option.bind_some _ _).symm.trans H; with_reducible exact H2_) | with_reducible exact H | (rw [hy138]; exact H) | exact H); have Ny138 := Aside0.mk hy138; clear hy138; replace H := Option.bind_eq_some_iff.mp H; obtain ⟨t141, A130, H⟩ := H;  have A13 := Aside0.mk A130; clear A130; by_cases c14 : 0 ≤ x6_1
                ·rw [if_pos c14] at H; have c14b0 : decide (0 ≤ x6_1) = true := decide_eq_true c14; clear c14; by_cases c15 : x6_1 < (t141.length : Int)
                 ·rw [if_pos c15] at H; have c15b0 : decide (x6_1 < (t141.length : Int)) = true := decide_eq_true c15; clear c15; have H' := Aside0.mk H; clear H; go_wp2_with (first | ((with_reducible refine gate_builtin (b := .append) (xs := #[.tmp 23, .tmp 29]) rfl ?_); at_builtin; refine Kd.R_append k60 (w0 := w) w.heap.size rfl (.tmp 23) (.tmp 29) 24 60 (.agg #[(.int .i8 0), (.int .i16 0)]) 4 rfl Tryz.underlying24 info60 rfl (by decide) (by omega) u4 x4_2 (⟨IntKind.i8.wrap (x6_1), IntKind.i16.wrap (x5_2)⟩ : S60) [.int .i8 (IntKind.i8.wrap (x6_1)), .int .i16 (IntKind.i16.wrap (x5_2))] (fun _ => True) (fun _ => False) rfl rfl ?aP (fun _ hk => hk.elim) ?aF ?aO ?aB ?aS ?aL ?_; (case aP => exact k60_mkM _ _ _ (⟨IntKind.i8.wrap (x6_1), IntKind.i16.wrap (x5_2)⟩ : S60)); (case aB => exact z0_); (case aF => exact (fun _ _ => trivial)); (case aO => exact z64_); (case aS => exact (below_size z0_)); (case aL => have := LMc12.out; omega); intro v139 w16 ho hb hg hat; rw [← Ny138.out] at ho; replace HB := Aside0.mk (hb); have HO140 := Aside0.mk (ho); clear HO_4; clear ho hb hg hat) | ((with_reducible refine gate_callee (f := 52) rfl ?_); refine goesL_ (some 32) rfl rfl Tryz.func52 z8_ rfl #[] rfl z1_ ?_; (with_reducible refine (spec_l01Widths.calls  t141 _ A13.out).mono ?_); rintro e w17 ⟨v142, rfl, ho0, hb⟩; refine ⟨_, rfl, ?_⟩; replace HO140 := Aside0.mk (Kd.R_below (by (with_reducible repeat (first | apply Kd.R_alloc | apply Kd.R_drewN | apply Kd.R_drew)); exact HO140.out) hb); have HO143 := Aside0.mk (Kd.R_lower ho0 (below_size z0_)); replace HB := Aside0.mk (below_step z0_ hb); (try clear hb); (try clear ho0); obtain ⟨Ao18, co18, eo18⟩ := Kd.R_slice HO143.out; subst eo18; have p144 : 0 ≤ (x6_1 : Int) := of_decide_eq_true z2_; have q144 : x6_1 < (t141.length : Int) := of_decide_eq_true z2_; obtain ⟨ad144, e144, hx144_0⟩ := Kd.at_int (Kd.R_reads' HO143.out).2.2 x6_1 p144 q144; cases e144; replace p144 := eq_true p144; replace q144 := eq_true q144)); go_roundg k2
                  case measure => have := HK1.out; have := HK2.out; omega
                  case rel => exact ⟨(wrap64 (x0_2 - (rd t134 x6_1))), (y138), (wrap64 (x5_2 + (wrap64 ((rd t141 x6_1) + 1)))), z9_, z9_, H', ⟨by have := HK1.out; have := HK2.out; omega⟩, ⟨by (with_reducible repeat (first | apply Kd.R_alloc | apply Kd.R_drewN | apply Kd.R_drew)); exact HO140.out⟩, ⟨z0_⟩⟩
                 ·rw [if_neg c15] at H; exact absurd H (by simp)
                ·rw [if_neg c14] at H; exact absurd H (by simp)
               ·rw [if_neg c12] at H; exact absurd H (by simp)
             ·rw [if_neg c10] at H; have c10b0 : decide ((rd t134 x6_1) ≤ x0_2) = false := decide_eq_false c10; clear c10; have H' := Aside0.mk H; clear H; go_wp2; go_roundg k2
              case measure => have := HK1.out; have := HK2.out; omega
              case rel => exact ⟨(x0_2), (x4_2), (x5_2), (wrap64 (x6_1 - 1)), z9_, z9_, z9_, H', ⟨by have := HK1.out; have := HK2.out; omega⟩, ⟨z64_⟩, ⟨z0_⟩⟩
        ·rw [if_neg c7] at H; exact absurd H (by simp)
       ·rw [if_neg c6] at H; exact absurd H (by simp)
      ·rw [if_neg c4] at H; have c4b0 : decide (0 ≤ x6_1) = false := decide_eq_false c4; clear c4; replace H := Option.bind_eq_some_iff.mp H; obtain ⟨t133, A190, H⟩ := H;  have A19 := Aside0.mk A190; clear A190; simp only [Option.some.injEq, Prod.mk.injEq] at H; obtain ⟨rfl, rfl⟩ := H; obtain ⟨Ao20, co20, eo20⟩ := Kd.R_slice HO_4.out; subst eo20; go_wp2_with (first | ((with_reducible refine gate_callee (f := 32) rfl ?_); refine goesL_ (some 43) rfl rfl Tryz.func32 z8_ rfl #[.slice Ao20 x4_1.length co20] rfl z1_ ?_; (with_reducible refine (spec_l01Notches.calls k1 _ _ x4_1 t133 _ ?side1 ?side2 A19.out).mono ?_); (case side1 => repeat (first | exact (Kd.R_reads' HO_4.out).2.2 | (with_reducible refine Kd.C_alloc ?_ _) | (with_reducible refine Kd.C_drewN ?_ _) | (with_reducible refine Kd.C_drew ?_))); (case side2 => exact (Kd.R_reads' HO_4.out).2.1); rintro e w21 ⟨rfl, hb⟩; refine ⟨_, rfl, ?_⟩; replace HO_4 := Aside0.mk (Kd.R_below z64_ hb); replace HB := Aside0.mk (below_step z0_ hb); (try clear hb))); go_ret2; exact ⟨_, z6_, z64_, z0_⟩

end Go.Proofs.YtcblnnfodpglaaaGreatDoor.MNotched
