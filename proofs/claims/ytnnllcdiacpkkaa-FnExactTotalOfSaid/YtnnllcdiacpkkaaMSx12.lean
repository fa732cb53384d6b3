-- by a program of this session, for this claim
import Derived.Test.YtnnllcdiacpkkaaMSx0
import Derived.Test.YtnnllcdiacpkkaaMSx2
namespace Go.Proofs.Ytnnllcdiacpkkaa.MS
open Go.RowKit Go.Proofs.YtnnllcdiacpkkaaW.PrintWords Go.Proofs.YtnnllcdiacpkkaaW.PrintLast Go.Proofs.YtnnllcdiacpkkaaW.PrintMore
attribute [local go_sem] max2_int min2_int max_two min_two max_three min_three max_four min_four   -- for this text's walks alone
set_option linter.unusedVariables false
set_option linter.unusedSimpArgs false

/-! ### spec_TotalOf: function 39 -/
mutual
def spec_TotalOf.l0 : Nat → List (S78) → Bool → Int → Option (Int × Int × Int)
  | 0, _, _, _ => none
  | k + 1, x0, x5, x6 => if x6 < (x0.length : Int) then (spec_TotalOf.j1 k x0 x5 x6 x5) else (spec_TotalOf.j1 k x0 x5 x6 false)
def spec_TotalOf.j1 : Nat → List (S78) → Bool → Int → Bool → Option (Int × Int × Int)
  | 0, _, _, _, _ => none
  | k + 1, x0, x5, x6, x19 => if x19 = true then (if 0 ≤ x6 then (if x6 < (x0.length : Int) then ((spec_l03Amount.f ((rd_T78 x0 x6).f0)).bind fun t254 => (if t254 = true then ((spec_l03Amount.f ((rd_T78 x0 x6).f1)).bind fun t256 => (if t256 = true then ((spec_l03Amount.f ((rd_T78 x0 x6).f2)).bind fun t258 => (if t258 = true then ((spec_l03Amount.f ((rd_T78 x0 x6).f3)).bind fun t260 => (spec_TotalOf.l0 k x0 t260 (wrap64 (x6 + 1)))) else (spec_TotalOf.l0 k x0 false (wrap64 (x6 + 1))))) else (spec_TotalOf.l0 k x0 false (wrap64 (x6 + 1))))) else (spec_TotalOf.l0 k x0 false (wrap64 (x6 + 1))))) else (none)) else (none)) else (if x5 = true then (spec_TotalOf.l1 k x0 0 0 0) else (some (0, 0, 2)))
def spec_TotalOf.l1 : Nat → List (S78) → Int → Int → Int → Option (Int × Int × Int)
  | 0, _, _, _, _ => none
  | k + 1, x0, x7, x8, x9 => if x9 < (x0.length : Int) then (if 0 ≤ x9 then (spec_TotalOf.l1 k x0 (wrap64 (x7 + ((rd_T78 x0 x9).f1))) (wrap64 (x8 + ((rd_T78 x0 x9).f2))) (wrap64 (x9 + 1))) else (none)) else (if x7 > 100000000 then (some (0, 0, 3)) else (if x8 > 100000000 then (some (0, 0, 3)) else (some (x7, x8, 0))))
end
def spec_TotalOf.f (k : Nat) (l0 : List (S78)) : Option (Int × Int × Int) := spec_TotalOf.l0 k l0 (decide ((l0.length : Int) ≤ 400)) 0
theorem spec_TotalOf.mono_l : ∀ k, (∀ y0 y1 y2, LeO (spec_TotalOf.l0 k y0 y1 y2) (spec_TotalOf.l0 (k + 1) y0 y1 y2)) ∧ (∀ y0 y1 y2 y3, LeO (spec_TotalOf.j1 k y0 y1 y2 y3) (spec_TotalOf.j1 (k + 1) y0 y1 y2 y3)) ∧ (∀ y0 y1 y2 y3, LeO (spec_TotalOf.l1 k y0 y1 y2 y3) (spec_TotalOf.l1 (k + 1) y0 y1 y2 y3))
  | 0 => ⟨fun _ _ _ r h => by simp [spec_TotalOf.l0] at h, fun _ _ _ _ r h => by simp [spec_TotalOf.j1] at h, fun _ _ _ _ r h => by simp [spec_TotalOf.l1] at h⟩
  | k + 1 => by
    obtain ⟨ih0, ih1, ih2⟩ := spec_TotalOf.mono_l k
    refine ⟨?_, ?_, ?_⟩
    · intro y0 y1 y2
      unfold spec_TotalOf.l0
      repeat' first
      | (with_reducible exact ih0 _ _ _)
      | (with_reducible exact ih1 _ _ _ _)
      | (with_reducible exact ih2 _ _ _ _)
      | (with_reducible exact LeO.refl _)
      | (with_reducible exact LeO.none _)
      | (with_reducible refine LeO.ite ?_ ?_)
      | (with_reducible refine LeO.bind ?_ (fun _ => ?_))
      | exact ih0 _ _ _
      | exact ih1 _ _ _ _
      | exact ih2 _ _ _ _
      | exact LeO.none _
      | refine LeO.ite ?_ ?_
      | refine LeO.bind ?_ (fun _ => ?_)
    · intro y0 y1 y2 y3
      unfold spec_TotalOf.j1
      repeat' first
      | (with_reducible exact ih0 _ _ _)
      | (with_reducible exact ih1 _ _ _ _)
      | (with_reducible exact ih2 _ _ _ _)
      | (with_reducible exact LeO.refl _)
      | (with_reducible exact LeO.none _)
      | (with_reducible refine LeO.ite ?_ ?_)
      | (with_reducible refine LeO.bind ?_ (fun _ => ?_))
      | exact ih0 _ _ _
      | exact ih1 _ _ _ _
      | exact ih2 _ _ _ _
      | exact LeO.none _
      | refine LeO.ite ?_ ?_
      | refine LeO.bind ?_ (fun _ => ?_)
    · intro y0 y1 y2 y3
      unfold spec_TotalOf.l1
      repeat' first
      | (with_reducible exact ih0 _ _ _)
      | (with_reducible exact ih1 _ _ _ _)
      | (with_reducible exact ih2 _ _ _ _)
      | (with_reducible exact LeO.refl _)
      | (with_reducible exact LeO.none _)
      | (with_reducible refine LeO.ite ?_ ?_)
      | (with_reducible refine LeO.bind ?_ (fun _ => ?_))
      | exact ih0 _ _ _
      | exact ih1 _ _ _ _
      | exact ih2 _ _ _ _
      | exact LeO.none _
      | refine LeO.ite ?_ ?_
      | refine LeO.bind ?_ (fun _ => ?_)
theorem spec_TotalOf.mono : ∀ a0 k, LeO (spec_TotalOf.f k a0) (spec_TotalOf.f (k + 1) a0) := by
  intro a0 k
  obtain ⟨ih0, ih1, ih2⟩ := spec_TotalOf.mono_l k
  unfold spec_TotalOf.f
  repeat' first
      | (with_reducible exact ih0 _ _ _)
      | (with_reducible exact ih1 _ _ _ _)
      | (with_reducible exact ih2 _ _ _ _)
      | (with_reducible exact LeO.refl _)
      | (with_reducible exact LeO.none _)
      | (with_reducible refine LeO.ite ?_ ?_)
      | (with_reducible refine LeO.bind ?_ (fun _ => ?_))
      | exact ih0 _ _ _
      | exact ih1 _ _ _ _
      | exact ih2 _ _ _ _
      | exact LeO.none _
      | refine LeO.ite ?_ ?_
      | refine LeO.bind ?_ (fun _ => ?_)
set_option maxHeartbeats 8000000 in
set_option maxRecDepth 100000 in
theorem spec_TotalOf.calls (k : Nat) (A0 : Option Addr) (c0 : Nat) (l0 : List (S78)) (r1 : Int) (r2 : Int) (r3 : Int) (w : World) (hr0 : Kd.C k78 w A0 l0.length l0) (hc0 : l0.length ≤ c0) (h : spec_TotalOf.f k l0 = some (r1, r2, r3)) :
    Calls Try.prog 39 #[.slice A0 l0.length c0] w fun e w' => e = .returned (.tuple #[.int .i64 r1, .int .i64 r2, .int .i64 r3]) ∧ Drawn0 w w' := by
  have HR0 := Aside0.mk hr0
  have HC0 := Aside0.mk hc0
  clear hr0 hc0
  have H : (spec_TotalOf.l0 k l0 (decide ((l0.length : Int) ≤ 400)) 0) = some (r1, r2, r3) := h
  clear h
  have H' := Aside0.mk H
  clear H
  go_enter Try.func39, Try.ntmps39
  go_wp2
  go_loopg [5, 6] k (fun kq v5 v6 w' => ∃ (x5_1 : Bool) (x6_1 : Int), v5 = .bool x5_1 ∧ v6 = .int .i64 x6_1 ∧ Aside0 (spec_TotalOf.l0 kq l0 x5_1 x6_1 = some (r1, r2, r3)) ∧ Aside0 (kq ≤ k) ∧ Drawn0 w w')
  case atStart => exact ⟨(decide ((l0.length : Int) ≤ 400)), (0), (by first | rfl | (simp; done) | (simp [*]; done)), (by first | rfl | (simp; done) | (simp [*]; done)), H', ⟨Nat.le_refl _⟩, by repeat (first | exact Drawn0.refl _ | apply Drawn0.step)⟩
  case round =>
    clear H'
    obtain ⟨x5_1, x6_1, rfl, rfl, HA, HK1, ⟨m1, rfl⟩⟩ := hrel
    cases gk with
    | zero => exact absurd HA.out (by simp [spec_TotalOf.l0])
    | succ k1 =>
      have H := HA.out
      clear HA
      simp only [spec_TotalOf.l0] at H
      have HC2 := Aside0.mk H
      clear H
      go_upto_region 3 with (fail)
      go_cut [19] (fun v19 wc => ∃ (kq : Nat) (x19_1 : Bool), v19 = .bool x19_1 ∧ Aside0 (spec_TotalOf.j1 kq l0 x5_1 x6_1 x19_1 = some (r1, r2, r3)) ∧ Aside0 (kq ≤ k1) ∧ Drawn0 w wc)
      case first =>
        have H := HC2.out
        clear HC2
        by_cases c3 : x6_1 < (l0.length : Int)
        · rw [if_pos c3] at H
          have c3b0 : decide (x6_1 < (l0.length : Int)) = true := decide_eq_true c3
          clear c3
          (first | rw [c3b0] | (simp only [i64_w, i32_w]; rw [c3b0]) | skip)
          have H' := Aside0.mk H
          clear H
          go_wp2
          go_meet
          case rel => exact ⟨_, (x5_1), (by first | rfl | (simp; done) | (simp [*]; done)), H', ⟨by have := HK1.out; first | omega | exact Nat.le_refl _⟩, by repeat (first | exact Drawn0.refl _ | apply Drawn0.step)⟩
        · rw [if_neg c3] at H
          have c3b0 : decide (x6_1 < (l0.length : Int)) = false := decide_eq_false c3
          clear c3
          (first | rw [c3b0] | (simp only [i64_w, i32_w]; rw [c3b0]) | skip)
          have H' := Aside0.mk H
          clear H
          go_wp2
          go_meet
          case rel => exact ⟨_, (false), (by first | rfl | (simp; done) | (simp [*]; done)), H', ⟨by have := HK1.out; first | omega | exact Nat.le_refl _⟩, by repeat (first | exact Drawn0.refl _ | apply Drawn0.step)⟩
      case rest =>
        clear HC2
        try clear p2
        try clear c3
        try clear c3b0
        obtain ⟨kq, x19_1, rfl, HA, HJ1, ⟨mc1, rfl⟩⟩ := hcut
        cases kq with
        | zero => exact absurd HA.out (by simp [spec_TotalOf.j1])
        | succ kj1 =>
          have H := HA.out
          clear HA
          simp only [spec_TotalOf.j1] at H
          by_cases c4 : x19_1 = true
          · subst c4
            have H1 : (if 0 ≤ x6_1 then (if x6_1 < (l0.length : Int) then ((spec_l03Amount.f ((rd_T78 l0 x6_1).f0)).bind fun t254 => (if t254 = true then ((spec_l03Amount.f ((rd_T78 l0 x6_1).f1)).bind fun t256 => (if t256 = true then ((spec_l03Amount.f ((rd_T78 l0 x6_1).f2)).bind fun t258 => (if t258 = true then ((spec_l03Amount.f ((rd_T78 l0 x6_1).f3)).bind fun t260 => (spec_TotalOf.l0 kj1 l0 t260 (wrap64 (x6_1 + 1)))) else (spec_TotalOf.l0 kj1 l0 false (wrap64 (x6_1 + 1))))) else (spec_TotalOf.l0 kj1 l0 false (wrap64 (x6_1 + 1))))) else (spec_TotalOf.l0 kj1 l0 false (wrap64 (x6_1 + 1))))) else (none)) else (none)) = some (r1, r2, r3) := by rw [if_pos rfl] at H; exact H
            clear H
            have H := H1
            clear H1
            by_cases c5 : 0 ≤ x6_1
            · rw [if_pos c5] at H
              have c5b0 : decide (0 ≤ x6_1) = true := decide_eq_true c5
              clear c5
              by_cases c6 : x6_1 < (l0.length : Int)
              · rw [if_pos c6] at H
                have c6b0 : decide (x6_1 < (l0.length : Int)) = true := decide_eq_true c6
                clear c6
                replace H := Option.bind_eq_some_iff.mp H
                obtain ⟨t254, A70, H⟩ := H
                replace H : (if t254 = true then ((spec_l03Amount.f ((rd_T78 l0 x6_1).f1)).bind fun t256 => (if t256 = true then ((spec_l03Amount.f ((rd_T78 l0 x6_1).f2)).bind fun t258 => (if t258 = true then ((spec_l03Amount.f ((rd_T78 l0 x6_1).f3)).bind fun t260 => (spec_TotalOf.l0 kj1 l0 t260 (wrap64 (x6_1 + 1)))) else (spec_TotalOf.l0 kj1 l0 false (wrap64 (x6_1 + 1))))) else (spec_TotalOf.l0 kj1 l0 false (wrap64 (x6_1 + 1))))) else (spec_TotalOf.l0 kj1 l0 false (wrap64 (x6_1 + 1)))) = some (r1, r2, r3) := H
                have A7 := Aside0.mk A70
                clear A70
                by_cases c8 : t254 = true
                · subst c8
                  have H1 : ((spec_l03Amount.f ((rd_T78 l0 x6_1).f1)).bind fun t256 => (if t256 = true then ((spec_l03Amount.f ((rd_T78 l0 x6_1).f2)).bind fun t258 => (if t258 = true then ((spec_l03Amount.f ((rd_T78 l0 x6_1).f3)).bind fun t260 => (spec_TotalOf.l0 kj1 l0 t260 (wrap64 (x6_1 + 1)))) else (spec_TotalOf.l0 kj1 l0 false (wrap64 (x6_1 + 1))))) else (spec_TotalOf.l0 kj1 l0 false (wrap64 (x6_1 + 1))))) = some (r1, r2, r3) := by rw [if_pos rfl] at H; exact H
                  clear H
                  have H := H1
                  clear H1
                  replace H := Option.bind_eq_some_iff.mp H
                  obtain ⟨t256, A90, H⟩ := H
                  replace H : (if t256 = true then ((spec_l03Amount.f ((rd_T78 l0 x6_1).f2)).bind fun t258 => (if t258 = true then ((spec_l03Amount.f ((rd_T78 l0 x6_1).f3)).bind fun t260 => (spec_TotalOf.l0 kj1 l0 t260 (wrap64 (x6_1 + 1)))) else (spec_TotalOf.l0 kj1 l0 false (wrap64 (x6_1 + 1))))) else (spec_TotalOf.l0 kj1 l0 false (wrap64 (x6_1 + 1)))) = some (r1, r2, r3) := H
                  have A9 := Aside0.mk A90
                  clear A90
                  by_cases c10 : t256 = true
                  · subst c10
                    have H1 : ((spec_l03Amount.f ((rd_T78 l0 x6_1).f2)).bind fun t258 => (if t258 = true then ((spec_l03Amount.f ((rd_T78 l0 x6_1).f3)).bind fun t260 => (spec_TotalOf.l0 kj1 l0 t260 (wrap64 (x6_1 + 1)))) else (spec_TotalOf.l0 kj1 l0 false (wrap64 (x6_1 + 1))))) = some (r1, r2, r3) := by rw [if_pos rfl] at H; exact H
                    clear H
                    have H := H1
                    clear H1
                    replace H := Option.bind_eq_some_iff.mp H
                    obtain ⟨t258, A110, H⟩ := H
                    replace H : (if t258 = true then ((spec_l03Amount.f ((rd_T78 l0 x6_1).f3)).bind fun t260 => (spec_TotalOf.l0 kj1 l0 t260 (wrap64 (x6_1 + 1)))) else (spec_TotalOf.l0 kj1 l0 false (wrap64 (x6_1 + 1)))) = some (r1, r2, r3) := H
                    have A11 := Aside0.mk A110
                    clear A110
                    by_cases c12 : t258 = true
                    · subst c12
                      have H1 : ((spec_l03Amount.f ((rd_T78 l0 x6_1).f3)).bind fun t260 => (spec_TotalOf.l0 kj1 l0 t260 (wrap64 (x6_1 + 1)))) = some (r1, r2, r3) := by rw [if_pos rfl] at H; exact H
                      clear H
                      have H := H1
                      clear H1
                      replace H := Option.bind_eq_some_iff.mp H
                      obtain ⟨t260, A130, H⟩ := H
                      replace H : (spec_TotalOf.l0 kj1 l0 t260 (wrap64 (x6_1 + 1))) = some (r1, r2, r3) := H
                      have A13 := Aside0.mk A130
                      clear A130
                      have H' := Aside0.mk H
                      clear H
                      have p253 : 0 ≤ (x6_1 : Int) := of_decide_eq_true (by first | (with_reducible assumption) | assumption)
                      have q253 : x6_1 < (l0.length : Int) := of_decide_eq_true (by first | (with_reducible assumption) | assumption)
                      obtain ⟨ad253, e253, hx253_0, hx253_1, hx253_2, hx253_3⟩ := at_T78 HR0.out x6_1 p253 q253
                      cases e253
                      replace p253 := eq_true p253
                      replace q253 := eq_true q253
                      go_wp2_with (first | ((with_reducible refine gate_callee (f := 68) rfl ?_); refine goesL_ (some 27) rfl rfl Try.func68 (by kernel_rfl) rfl #[.int .i64 ((rd_T78 l0 x6_1).f0)] rfl (by (try simp only [List.map_toArray, List.map_cons, List.map_nil]); first | done | rfl | (simp only [List.length_drop, List.length_take]; rfl)) ?_; (with_reducible refine (spec_l03Amount.calls ((rd_T78 l0 x6_1).f0) true _ A7.out).mono ?_); rintro e w' ⟨rfl, ⟨nd, rfl⟩⟩; refine ⟨_, rfl, ?_⟩; have p255 : 0 ≤ (x6_1 : Int) := of_decide_eq_true (by first | (with_reducible assumption) | assumption); have q255 : x6_1 < (l0.length : Int) := of_decide_eq_true (by first | (with_reducible assumption) | assumption); obtain ⟨ad255, e255, hx255_0, hx255_1, hx255_2, hx255_3⟩ := at_T78 HR0.out x6_1 p255 q255; obtain rfl : ad253 = ad255 := (by injection e255); replace p255 := eq_true p255; replace q255 := eq_true q255) | (go_at_call 68; (with_reducible refine (spec_l03Amount.calls ((rd_T78 l0 x6_1).f1) true _ A9.out).mono ?_); rintro e w' ⟨rfl, ⟨nd, rfl⟩⟩; have p257 : 0 ≤ (x6_1 : Int) := of_decide_eq_true (by first | (with_reducible assumption) | assumption); have q257 : x6_1 < (l0.length : Int) := of_decide_eq_true (by first | (with_reducible assumption) | assumption); obtain ⟨ad257, e257, hx257_0, hx257_1, hx257_2, hx257_3⟩ := at_T78 HR0.out x6_1 p257 q257; obtain rfl : ad253 = ad257 := (by injection e257); replace p257 := eq_true p257; replace q257 := eq_true q257) | (go_at_call 68; (with_reducible refine (spec_l03Amount.calls ((rd_T78 l0 x6_1).f2) true _ A11.out).mono ?_); rintro e w' ⟨rfl, ⟨nd, rfl⟩⟩; have p259 : 0 ≤ (x6_1 : Int) := of_decide_eq_true (by first | (with_reducible assumption) | assumption); have q259 : x6_1 < (l0.length : Int) := of_decide_eq_true (by first | (with_reducible assumption) | assumption); obtain ⟨ad259, e259, hx259_0, hx259_1, hx259_2, hx259_3⟩ := at_T78 HR0.out x6_1 p259 q259; obtain rfl : ad253 = ad259 := (by injection e259); replace p259 := eq_true p259; replace q259 := eq_true q259) | (go_at_call 68; (with_reducible refine (spec_l03Amount.calls ((rd_T78 l0 x6_1).f3) t260 _ A13.out).mono ?_); rintro e w' ⟨rfl, ⟨nd, rfl⟩⟩))
                      go_roundg kj1
                      case measure => have := HK1.out; have := HJ1.out; omega
                      case rel => exact ⟨(t260), (wrap64 (x6_1 + 1)), (by first | rfl | (simp; done) | (simp [*]; done)), (by first | rfl | (simp; done) | (simp [*]; done)), H', ⟨by have := HK1.out; have := HJ1.out; omega⟩, by repeat (first | exact Drawn0.refl _ | apply Drawn0.step)⟩
                    · replace c12 := Bool.eq_false_iff.mpr c12
                      subst c12
                      have H1 : (spec_TotalOf.l0 kj1 l0 false (wrap64 (x6_1 + 1))) = some (r1, r2, r3) := by rw [if_neg (show ¬ (false = true) by decide)] at H; exact H
                      clear H
                      have H := H1
                      clear H1
                      have H' := Aside0.mk H
                      clear H
                      have p253 : 0 ≤ (x6_1 : Int) := of_decide_eq_true (by first | (with_reducible assumption) | assumption)
                      have q253 : x6_1 < (l0.length : Int) := of_decide_eq_true (by first | (with_reducible assumption) | assumption)
                      obtain ⟨ad253, e253, hx253_0, hx253_1, hx253_2, hx253_3⟩ := at_T78 HR0.out x6_1 p253 q253
                      cases e253
                      replace p253 := eq_true p253
                      replace q253 := eq_true q253
                      go_wp2_with (first | ((with_reducible refine gate_callee (f := 68) rfl ?_); refine goesL_ (some 27) rfl rfl Try.func68 (by kernel_rfl) rfl #[.int .i64 ((rd_T78 l0 x6_1).f0)] rfl (by (try simp only [List.map_toArray, List.map_cons, List.map_nil]); first | done | rfl | (simp only [List.length_drop, List.length_take]; rfl)) ?_; (with_reducible refine (spec_l03Amount.calls ((rd_T78 l0 x6_1).f0) true _ A7.out).mono ?_); rintro e w' ⟨rfl, ⟨nd, rfl⟩⟩; refine ⟨_, rfl, ?_⟩; have p255 : 0 ≤ (x6_1 : Int) := of_decide_eq_true (by first | (with_reducible assumption) | assumption); have q255 : x6_1 < (l0.length : Int) := of_decide_eq_true (by first | (with_reducible assumption) | assumption); obtain ⟨ad255, e255, hx255_0, hx255_1, hx255_2, hx255_3⟩ := at_T78 HR0.out x6_1 p255 q255; obtain rfl : ad253 = ad255 := (by injection e255); replace p255 := eq_true p255; replace q255 := eq_true q255) | (go_at_call 68; (with_reducible refine (spec_l03Amount.calls ((rd_T78 l0 x6_1).f1) true _ A9.out).mono ?_); rintro e w' ⟨rfl, ⟨nd, rfl⟩⟩; have p257 : 0 ≤ (x6_1 : Int) := of_decide_eq_true (by first | (with_reducible assumption) | assumption); have q257 : x6_1 < (l0.length : Int) := of_decide_eq_true (by first | (with_reducible assumption) | assumption); obtain ⟨ad257, e257, hx257_0, hx257_1, hx257_2, hx257_3⟩ := at_T78 HR0.out x6_1 p257 q257; obtain rfl : ad253 = ad257 := (by injection e257); replace p257 := eq_true p257; replace q257 := eq_true q257) | (go_at_call 68; (with_reducible refine (spec_l03Amount.calls ((rd_T78 l0 x6_1).f2) false _ A11.out).mono ?_); rintro e w' ⟨rfl, ⟨nd, rfl⟩⟩))
                      go_roundg kj1
                      case measure => have := HK1.out; have := HJ1.out; omega
                      case rel => exact ⟨(false), (wrap64 (x6_1 + 1)), (by first | rfl | (simp; done) | (simp [*]; done)), (by first | rfl | (simp; done) | (simp [*]; done)), H', ⟨by have := HK1.out; have := HJ1.out; omega⟩, by repeat (first | exact Drawn0.refl _ | apply Drawn0.step)⟩
                  · replace c10 := Bool.eq_false_iff.mpr c10
                    subst c10
                    have H1 : (spec_TotalOf.l0 kj1 l0 false (wrap64 (x6_1 + 1))) = some (r1, r2, r3) := by rw [if_neg (show ¬ (false = true) by decide)] at H; exact H
                    clear H
                    have H := H1
                    clear H1
                    have H' := Aside0.mk H
                    clear H
                    have p253 : 0 ≤ (x6_1 : Int) := of_decide_eq_true (by first | (with_reducible assumption) | assumption)
                    have q253 : x6_1 < (l0.length : Int) := of_decide_eq_true (by first | (with_reducible assumption) | assumption)
                    obtain ⟨ad253, e253, hx253_0, hx253_1, hx253_2, hx253_3⟩ := at_T78 HR0.out x6_1 p253 q253
                    cases e253
                    replace p253 := eq_true p253
                    replace q253 := eq_true q253
                    go_wp2_with (first | ((with_reducible refine gate_callee (f := 68) rfl ?_); refine goesL_ (some 27) rfl rfl Try.func68 (by kernel_rfl) rfl #[.int .i64 ((rd_T78 l0 x6_1).f0)] rfl (by (try simp only [List.map_toArray, List.map_cons, List.map_nil]); first | done | rfl | (simp only [List.length_drop, List.length_take]; rfl)) ?_; (with_reducible refine (spec_l03Amount.calls ((rd_T78 l0 x6_1).f0) true _ A7.out).mono ?_); rintro e w' ⟨rfl, ⟨nd, rfl⟩⟩; refine ⟨_, rfl, ?_⟩; have p255 : 0 ≤ (x6_1 : Int) := of_decide_eq_true (by first | (with_reducible assumption) | assumption); have q255 : x6_1 < (l0.length : Int) := of_decide_eq_true (by first | (with_reducible assumption) | assumption); obtain ⟨ad255, e255, hx255_0, hx255_1, hx255_2, hx255_3⟩ := at_T78 HR0.out x6_1 p255 q255; obtain rfl : ad253 = ad255 := (by injection e255); replace p255 := eq_true p255; replace q255 := eq_true q255) | (go_at_call 68; (with_reducible refine (spec_l03Amount.calls ((rd_T78 l0 x6_1).f1) false _ A9.out).mono ?_); rintro e w' ⟨rfl, ⟨nd, rfl⟩⟩))
                    go_roundg kj1
                    case measure => have := HK1.out; have := HJ1.out; omega
                    case rel => exact ⟨(false), (wrap64 (x6_1 + 1)), (by first | rfl | (simp; done) | (simp [*]; done)), (by first | rfl | (simp; done) | (simp [*]; done)), H', ⟨by have := HK1.out; have := HJ1.out; omega⟩, by repeat (first | exact Drawn0.refl _ | apply Drawn0.step)⟩
                · replace c8 := Bool.eq_false_iff.mpr c8
                  subst c8
                  have H1 : (spec_TotalOf.l0 kj1 l0 false (wrap64 (x6_1 + 1))) = some (r1, r2, r3) := by rw [if_neg (show ¬ (false = true) by decide)] at H; exact H
                  clear H
                  have H := H1
                  clear H1
                  have H' := Aside0.mk H
                  clear H
                  have p253 : 0 ≤ (x6_1 : Int) := of_decide_eq_true (by first | (with_reducible assumption) | assumption)
                  have q253 : x6_1 < (l0.length : Int) := of_decide_eq_true (by first | (with_reducible assumption) | assumption)
                  obtain ⟨ad253, e253, hx253_0, hx253_1, hx253_2, hx253_3⟩ := at_T78 HR0.out x6_1 p253 q253
                  cases e253
                  replace p253 := eq_true p253
                  replace q253 := eq_true q253
                  go_wp2_with (first | ((with_reducible refine gate_callee (f := 68) rfl ?_); refine goesL_ (some 27) rfl rfl Try.func68 (by kernel_rfl) rfl #[.int .i64 ((rd_T78 l0 x6_1).f0)] rfl (by (try simp only [List.map_toArray, List.map_cons, List.map_nil]); first | done | rfl | (simp only [List.length_drop, List.length_take]; rfl)) ?_; (with_reducible refine (spec_l03Amount.calls ((rd_T78 l0 x6_1).f0) false _ A7.out).mono ?_); rintro e w' ⟨rfl, ⟨nd, rfl⟩⟩; refine ⟨_, rfl, ?_⟩))
                  go_roundg kj1
                  case measure => have := HK1.out; have := HJ1.out; omega
                  case rel => exact ⟨(false), (wrap64 (x6_1 + 1)), (by first | rfl | (simp; done) | (simp [*]; done)), (by first | rfl | (simp; done) | (simp [*]; done)), H', ⟨by have := HK1.out; have := HJ1.out; omega⟩, by repeat (first | exact Drawn0.refl _ | apply Drawn0.step)⟩
              · rw [if_neg c6] at H
                exact absurd H (by simp)
            · rw [if_neg c5] at H
              exact absurd H (by simp)
          · replace c4 := Bool.eq_false_iff.mpr c4
            subst c4
            have H1 : (if x5_1 = true then (spec_TotalOf.l1 kj1 l0 0 0 0) else (some (0, 0, 2))) = some (r1, r2, r3) := by rw [if_neg (show ¬ (false = true) by decide)] at H; exact H
            clear H
            have H := H1
            clear H1
            by_cases c14 : x5_1 = true
            · subst c14
              have H1 : (spec_TotalOf.l1 kj1 l0 0 0 0) = some (r1, r2, r3) := by rw [if_pos rfl] at H; exact H
              clear H
              have H := H1
              clear H1
              have H' := Aside0.mk H
              clear H
              go_wp2
              go_loopg [7, 8, 9] kj1 (fun kq v7 v8 v9 w' => ∃ (x7_3 : Int) (x8_3 : Int) (x9_3 : Int), v7 = .int .i64 x7_3 ∧ v8 = .int .i64 x8_3 ∧ v9 = .int .i64 x9_3 ∧ Aside0 (spec_TotalOf.l1 kq l0 x7_3 x8_3 x9_3 = some (r1, r2, r3)) ∧ Aside0 (kq ≤ kj1) ∧ Drawn0 w w')
              case atStart => exact ⟨(0), (0), (0), (by first | rfl | (simp; done) | (simp [*]; done)), (by first | rfl | (simp; done) | (simp [*]; done)), (by first | rfl | (simp; done) | (simp [*]; done)), H', ⟨Nat.le_refl _⟩, by repeat (first | exact Drawn0.refl _ | apply Drawn0.step)⟩
              case round =>
                clear H'
                try clear c1
                try clear p2
                try clear q2
                try clear hx2
                try clear c3
                try clear c3b0
                try clear c4
                try clear c5
                try clear c5b0
                try clear c6
                try clear c6b0
                try clear p6
                try clear c8
                try clear c10
                try clear c12
                try clear c14
                try clear hx253_0
                try clear hx253_1
                try clear hx253_2
                try clear hx253_3
                try clear hx255_0
                try clear hx255_1
                try clear hx255_2
                try clear hx255_3
                try clear hx257_0
                try clear hx257_1
                try clear hx257_2
                try clear hx257_3
                try clear hx259_0
                try clear hx259_1
                try clear hx259_2
                try clear hx259_3
                try clear p2
                try clear p253
                try clear p255
                try clear p257
                try clear p259
                try clear q253
                try clear q255
                try clear q257
                try clear q259
                obtain ⟨x7_3, x8_3, x9_3, rfl, rfl, rfl, HA, HK3, ⟨m3, rfl⟩⟩ := hrel
                cases gk with
                | zero => exact absurd HA.out (by simp [spec_TotalOf.l1])
                | succ k3 =>
                  have H := HA.out
                  clear HA
                  simp only [spec_TotalOf.l1] at H
                  by_cases c15 : x9_3 < (l0.length : Int)
                  · rw [if_pos c15] at H
                    have c15b0 : decide (x9_3 < (l0.length : Int)) = true := decide_eq_true c15
                    clear c15
                    by_cases c16 : 0 ≤ x9_3
                    · rw [if_pos c16] at H
                      have c16b0 : decide (0 ≤ x9_3) = true := decide_eq_true c16
                      clear c16
                      have H' := Aside0.mk H
                      clear H
                      have p261 : 0 ≤ (x9_3 : Int) := of_decide_eq_true (by first | (with_reducible assumption) | assumption)
                      have q261 : x9_3 < (l0.length : Int) := of_decide_eq_true (by first | (with_reducible assumption) | assumption)
                      obtain ⟨ad261, e261, hx261_0, hx261_1, hx261_2, hx261_3⟩ := at_T78 HR0.out x9_3 p261 q261
                      cases e261
                      replace p261 := eq_true p261
                      replace q261 := eq_true q261
                      have p262 : 0 ≤ (x9_3 : Int) := of_decide_eq_true (by first | (with_reducible assumption) | assumption)
                      have q262 : x9_3 < (l0.length : Int) := of_decide_eq_true (by first | (with_reducible assumption) | assumption)
                      obtain ⟨ad262, e262, hx262_0, hx262_1, hx262_2, hx262_3⟩ := at_T78 HR0.out x9_3 p262 q262
                      obtain rfl : ad261 = ad262 := (by injection e262)
                      replace p262 := eq_true p262
                      replace q262 := eq_true q262
                      go_wp2
                      go_roundg k3
                      case measure => have := HK1.out; have := HJ1.out; have := HK3.out; omega
                      case rel => exact ⟨(wrap64 (x7_3 + ((rd_T78 l0 x9_3).f1))), (wrap64 (x8_3 + ((rd_T78 l0 x9_3).f2))), (wrap64 (x9_3 + 1)), (by first | rfl | (simp; done) | (simp [*]; done)), (by first | rfl | (simp; done) | (simp [*]; done)), (by first | rfl | (simp; done) | (simp [*]; done)), H', ⟨by have := HK1.out; have := HJ1.out; have := HK3.out; omega⟩, by repeat (first | exact Drawn0.refl _ | apply Drawn0.step)⟩
                    · rw [if_neg c16] at H
                      exact absurd H (by simp)
                  · rw [if_neg c15] at H
                    have c15b0 : decide (x9_3 < (l0.length : Int)) = false := decide_eq_false c15
                    clear c15
                    by_cases c17 : x7_3 > 100000000
                    · rw [if_pos c17] at H
                      have c17b0 : decide (100000000 < x7_3) = true := decide_eq_true c17
                      clear c17
                      simp only [Option.some.injEq, Prod.mk.injEq] at H
                      obtain ⟨rfl, rfl, rfl⟩ := H
                      go_wp2
                      go_ret3
                      exact ⟨by first | rfl | (simp; done) | (simp [*]; done), by repeat (first | exact Drawn0.refl _ | apply Drawn0.step)⟩
                    · rw [if_neg c17] at H
                      have c17b0 : decide (100000000 < x7_3) = false := decide_eq_false c17
                      clear c17
                      by_cases c18 : x8_3 > 100000000
                      · rw [if_pos c18] at H
                        have c18b0 : decide (100000000 < x8_3) = true := decide_eq_true c18
                        clear c18
                        simp only [Option.some.injEq, Prod.mk.injEq] at H
                        obtain ⟨rfl, rfl, rfl⟩ := H
                        go_wp2
                        go_ret3
                        exact ⟨by first | rfl | (simp; done) | (simp [*]; done), by repeat (first | exact Drawn0.refl _ | apply Drawn0.step)⟩
                      · rw [if_neg c18] at H
                        have c18b0 : decide (100000000 < x8_3) = false := decide_eq_false c18
                        clear c18
                        simp only [Option.some.injEq, Prod.mk.injEq] at H
                        obtain ⟨rfl, rfl, rfl⟩ := H
                        go_wp2
                        go_ret3
                        exact ⟨by first | rfl | (simp; done) | (simp [*]; done), by repeat (first | exact Drawn0.refl _ | apply Drawn0.step)⟩
            · replace c14 := Bool.eq_false_iff.mpr c14
              subst c14
              have H1 : (some (0, 0, 2)) = some (r1, r2, r3) := by rw [if_neg (show ¬ (false = true) by decide)] at H; exact H
              clear H
              have H := H1
              clear H1
              simp only [Option.some.injEq, Prod.mk.injEq] at H
              obtain ⟨rfl, rfl, rfl⟩ := H
              go_wp2
              go_ret3
              exact ⟨by first | rfl | (simp; done) | (simp [*]; done), by repeat (first | exact Drawn0.refl _ | apply Drawn0.step)⟩

end Go.Proofs.Ytnnllcdiacpkkaa.MS
