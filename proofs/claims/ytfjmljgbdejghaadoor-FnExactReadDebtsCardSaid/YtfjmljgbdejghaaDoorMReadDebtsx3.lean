-- by a program of this session, for this claim
import Derived.Test.YtfjmljgbdejghaaDoorMReadDebtsx0
import Derived.Test.YtfjmljgbdejghaaDoorMReadDebtsx1
import Derived.Test.YtfjmljgbdejghaaDoorMReadDebtsx2
namespace Go.Proofs.YtfjmljgbdejghaaDoor.MReadDebts
open Go.RowKit Go.Proofs.YtfjmljgbdejghaaDoorW.PrintWords Go.Proofs.YtfjmljgbdejghaaDoorW.PrintLast Go.Proofs.YtfjmljgbdejghaaDoorW.PrintMore
attribute [local go_sem] max2_int min2_int max_two min_two max_three min_three max_four min_four   -- for this text's walks alone
set_option linter.unusedVariables false
set_option linter.unusedSimpArgs false

/-! ### spec_l01ReadAmount: function 53 -/
mutual
def spec_l01ReadAmount.l0 : Nat → ByteArray → List ByteArray → Int → Int → Option (Int × Bool)
  | 0, _, _, _, _ => none
  | k + 1, x0, x4, x5, x6 => if x6 < (x4.length : Int) then (if 0 ≤ x6 then (if ((rdOf ByteArray.empty x4 x6).size : Int) < 2 then (some (0, false)) else (if 0 ≤ (wrap64 (((rdOf ByteArray.empty x4 x6).size : Int) - 1)) then (if (wrap64 (((rdOf ByteArray.empty x4 x6).size : Int) - 1)) ≤ ((rdOf ByteArray.empty x4 x6).size : Int) then ((spec_l01Number.f k ((rdOf ByteArray.empty x4 x6).extract 0 ((wrap64 (((rdOf ByteArray.empty x4 x6).size : Int) - 1)) : Int).toNat)).bind fun bt135 => (if bt135.2 = true then (spec_l01ReadAmount.j1 k x0 x4 x5 x6 ((rdOf ByteArray.empty x4 x6).size : Int) bt135.1 (decide (bt135.1 > 100000000))) else (spec_l01ReadAmount.j1 k x0 x4 x5 x6 ((rdOf ByteArray.empty x4 x6).size : Int) bt135.1 true))) else (none)) else (none))) else (none)) else ((spec_l01Amount.f x5).bind fun t131 => (if t131 = true then ((spec_l01AmountText.f k x5).bind fun t132 => (some (x5, (t132.toList == x0.toList)))) else (some (x5, false))))
def spec_l01ReadAmount.j1 : Nat → ByteArray → List ByteArray → Int → Int → Int → Int → Bool → Option (Int × Bool)
  | 0, _, _, _, _, _, _, _ => none
  | k + 1, x0, x4, x5, x6, x7, x8, x41 => if x41 = true then (some (0, false)) else (if 0 ≤ x6 then (if x6 < (x4.length : Int) then (if 0 ≤ (wrap64 (x7 - 1)) then (if (wrap64 (x7 - 1)) < ((rdOf ByteArray.empty x4 x6).size : Int) then (if (bt (rdOf ByteArray.empty x4 x6) (wrap64 (x7 - 1))) = 108 then (spec_l01ReadAmount.l0 k x0 x4 (wrap64 (x5 + (wrap64 (240 * x8)))) (wrap64 (x6 + 1))) else (if (bt (rdOf ByteArray.empty x4 x6) (wrap64 (x7 - 1))) = 115 then (spec_l01ReadAmount.l0 k x0 x4 (wrap64 (x5 + (wrap64 (12 * x8)))) (wrap64 (x6 + 1))) else (if (bt (rdOf ByteArray.empty x4 x6) (wrap64 (x7 - 1))) = 100 then (spec_l01ReadAmount.l0 k x0 x4 (wrap64 (x5 + x8)) (wrap64 (x6 + 1))) else (some (0, false))))) else (none)) else (none)) else (none)) else (none))
end
def spec_l01ReadAmount.f (k : Nat) (a0 : ByteArray) : Option (Int × Bool) := (spec_l01Split.f k a0 32).bind fun t128 => (spec_l01ReadAmount.l0 k a0 t128 0 0)
theorem spec_l01ReadAmount.mono_l : ∀ k, (∀ y0 y1 y2 y3, LeO (spec_l01ReadAmount.l0 k y0 y1 y2 y3) (spec_l01ReadAmount.l0 (k + 1) y0 y1 y2 y3)) ∧ (∀ y0 y1 y2 y3 y4 y5 y6, LeO (spec_l01ReadAmount.j1 k y0 y1 y2 y3 y4 y5 y6) (spec_l01ReadAmount.j1 (k + 1) y0 y1 y2 y3 y4 y5 y6))
  | 0 => ⟨fun _ _ _ _ r h => by simp [spec_l01ReadAmount.l0] at h, fun _ _ _ _ _ _ _ r h => by simp [spec_l01ReadAmount.j1] at h⟩
  | k + 1 => by
    obtain ⟨ih0, ih1⟩ := spec_l01ReadAmount.mono_l k
    refine ⟨?_, ?_⟩
    · intro y0 y1 y2 y3
      unfold spec_l01ReadAmount.l0
      repeat' first
      | (with_reducible exact ih0 _ _ _ _)
      | (with_reducible exact ih1 _ _ _ _ _ _ _)
      | (with_reducible exact spec_l01AmountText.mono _ _)
      | (with_reducible exact spec_l01Number.mono _ _)
      | (with_reducible exact spec_l01Split.mono _ _ _)
      | (with_reducible exact LeO.refl _)
      | (with_reducible exact LeO.none _)
      | (with_reducible refine LeO.ite ?_ ?_)
      | (with_reducible refine LeO.bind ?_ (fun _ => ?_))
      | exact ih0 _ _ _ _
      | exact ih1 _ _ _ _ _ _ _
      | exact spec_l01AmountText.mono _ _
      | exact spec_l01Number.mono _ _
      | exact spec_l01Split.mono _ _ _
      | exact LeO.none _
      | refine LeO.ite ?_ ?_
      | refine LeO.bind ?_ (fun _ => ?_)
    · intro y0 y1 y2 y3 y4 y5 y6
      unfold spec_l01ReadAmount.j1
      repeat' first
      | (with_reducible exact ih0 _ _ _ _)
      | (with_reducible exact ih1 _ _ _ _ _ _ _)
      | (with_reducible exact spec_l01AmountText.mono _ _)
      | (with_reducible exact spec_l01Number.mono _ _)
      | (with_reducible exact spec_l01Split.mono _ _ _)
      | (with_reducible exact LeO.refl _)
      | (with_reducible exact LeO.none _)
      | (with_reducible refine LeO.ite ?_ ?_)
      | (with_reducible refine LeO.bind ?_ (fun _ => ?_))
      | exact ih0 _ _ _ _
      | exact ih1 _ _ _ _ _ _ _
      | exact spec_l01AmountText.mono _ _
      | exact spec_l01Number.mono _ _
      | exact spec_l01Split.mono _ _ _
      | exact LeO.none _
      | refine LeO.ite ?_ ?_
      | refine LeO.bind ?_ (fun _ => ?_)
theorem spec_l01ReadAmount.mono : ∀ a0 k, LeO (spec_l01ReadAmount.f k a0) (spec_l01ReadAmount.f (k + 1) a0) := by
  intro a0 k
  obtain ⟨ih0, ih1⟩ := spec_l01ReadAmount.mono_l k
  unfold spec_l01ReadAmount.f
  repeat' first
      | (with_reducible exact ih0 _ _ _ _)
      | (with_reducible exact ih1 _ _ _ _ _ _ _)
      | (with_reducible exact spec_l01AmountText.mono _ _)
      | (with_reducible exact spec_l01Number.mono _ _)
      | (with_reducible exact spec_l01Split.mono _ _ _)
      | (with_reducible exact LeO.refl _)
      | (with_reducible exact LeO.none _)
      | (with_reducible refine LeO.ite ?_ ?_)
      | (with_reducible refine LeO.bind ?_ (fun _ => ?_))
      | exact ih0 _ _ _ _
      | exact ih1 _ _ _ _ _ _ _
      | exact spec_l01AmountText.mono _ _
      | exact spec_l01Number.mono _ _
      | exact spec_l01Split.mono _ _ _
      | exact LeO.none _
      | refine LeO.ite ?_ ?_
      | refine LeO.bind ?_ (fun _ => ?_)
set_option maxHeartbeats 8000000 in
set_option maxRecDepth 100000 in
theorem spec_l01ReadAmount.calls (k : Nat) (a0 : ByteArray) (r1 : Int) (r2 : Bool) (w : World) (h : spec_l01ReadAmount.f k a0 = some (r1, r2)) :
    Calls Tryd.prog 53 #[.string a0] w fun e w' => e = .returned (.tuple #[.int .i64 r1, .bool r2]) ∧ Below w.heap.size w w' := by
  have HB := Aside0.mk (Below.refl w.heap.size w)
  have H : ((spec_l01Split.f k a0 32).bind fun t128 => (spec_l01ReadAmount.l0 k a0 t128 0 0)) = some (r1, r2) := h
  clear h
  replace H := Option.bind_eq_some_iff.mp H
  obtain ⟨t128, A20, H⟩ := H
  replace H : (spec_l01ReadAmount.l0 k a0 t128 0 0) = some (r1, r2) := H
  have A2 := Aside0.mk A20
  clear A20
  have H' := Aside0.mk H
  clear H
  go_enter Tryd.func53, Tryd.ntmps53
  go_wp2_with (first | ((with_reducible refine gate_callee (f := 63) rfl ?_); refine goesL_ (some 11) rfl rfl Tryd.func63 (by kernel_rfl) rfl #[.string a0, .int .u8 32] rfl (by (try simp only [List.map_toArray, List.map_cons, List.map_nil]); first | done | (go_simp; done) | rfl | (simp only [List.length_drop, List.length_take]; rfl)) ?_; (with_reducible refine (spec_l01Split.calls k a0 32 t128 _ A2.out).mono ?_); rintro e w3 ⟨v129, rfl, ho0, hb⟩; refine ⟨_, rfl, ?_⟩; have n0_ := Aside0.mk (Kd.R_lower ho0 (below_size (by repeat (first | (with_reducible first | exact HB.out | apply below_alloc | apply pw_below_drewN | apply below_drew1) | exact HB.out)))); have n1_ := Aside0.mk (below_step (by repeat (first | (with_reducible first | exact HB.out | apply below_alloc | apply pw_below_drewN | apply below_drew1) | exact HB.out)) hb); clear HB; have HO130 := n0_; have HB := n1_; clear n0_ n1_; (try clear hb); (try clear hb2); (try clear hk); (try clear hi); (try clear ho0)))
  go_loopg [5, 6] k (fun kq v5 v6 w' => ∃ (x5_1 : Int) (x6_1 : Int), v5 = .int .i64 x5_1 ∧ v6 = .int .i64 x6_1 ∧ Aside0 (spec_l01ReadAmount.l0 kq a0 t128 x5_1 x6_1 = some (r1, r2)) ∧ Aside0 (kq ≤ k) ∧ Aside0 (Kd.R Kd.string 9 w' w.heap.size (fun _ => True) v129 t128) ∧ Aside0 (Below w.heap.size w w'))
  case atStart => exact ⟨(0), (0), (by first | rfl | (simp; done) | (simp [*]; done)), (by first | rfl | (simp; done) | (simp [*]; done)), H', ⟨Nat.le_refl _⟩, ⟨by (with_reducible repeat (first | apply Kd.R_alloc | apply Kd.R_drewN | apply Kd.R_drew)); exact HO130.out⟩, ⟨by repeat (first | (with_reducible first | exact HB.out | apply below_alloc | apply pw_below_drewN | apply below_drew1) | exact HB.out)⟩⟩
  case round =>
    clear H'
    try clear p2
    obtain ⟨x5_1, x6_1, rfl, rfl, HA, HK1, HO_4, HB⟩ := hrel
    cases gk with
    | zero => exact absurd HA.out (by simp [spec_l01ReadAmount.l0])
    | succ k1 =>
      have H := HA.out
      clear HA
      simp only [spec_l01ReadAmount.l0] at H
      by_cases c4 : x6_1 < (t128.length : Int)
      · rw [if_pos c4] at H
        have c4b0 : decide (x6_1 < (t128.length : Int)) = true := decide_eq_true c4
        clear c4
        by_cases c5 : 0 ≤ x6_1
        · rw [if_pos c5] at H
          have c5b0 : decide (0 ≤ x6_1) = true := decide_eq_true c5
          clear c5
          by_cases c6 : ((rdOf ByteArray.empty t128 x6_1).size : Int) < 2
          · rw [if_pos c6] at H
            have c6b0 : decide (((rdOf ByteArray.empty t128 x6_1).size : Int) < 2) = true := decide_eq_true c6
            have c6b1 : decide ((rdOf ByteArray.empty t128 x6_1).size < 2) = true := decide_eq_true (by omega)
            clear c6
            simp only [Option.some.injEq, Prod.mk.injEq] at H
            obtain ⟨rfl, rfl⟩ := H
            obtain ⟨Ao7, co7, eo7⟩ := Kd.R_slice HO_4.out
            subst eo7
            have p133 : 0 ≤ (x6_1 : Int) := of_decide_eq_true (by first | (with_reducible assumption) | assumption)
            have q133 : x6_1 < (t128.length : Int) := of_decide_eq_true (by first | (with_reducible assumption) | assumption)
            obtain ⟨ad133, e133, hx133_0⟩ := Kd.at_string (Kd.R_reads' HO_4.out).2.2 x6_1 p133 q133
            cases e133
            replace p133 := eq_true p133
            replace q133 := eq_true q133
            go_wp2
            go_ret2
            exact ⟨by first | rfl | (simp [errW_none, errW_some] <;> rfl) | (simp [*, errW_none, errW_some] <;> rfl), by repeat (first | (with_reducible first | exact HB.out | apply below_alloc | apply pw_below_drewN | apply below_drew1) | exact HB.out)⟩
          · rw [if_neg c6] at H
            have c6b0 : decide (((rdOf ByteArray.empty t128 x6_1).size : Int) < 2) = false := decide_eq_false c6
            have c6b1 : decide ((rdOf ByteArray.empty t128 x6_1).size < 2) = false := decide_eq_false (by omega)
            clear c6
            obtain ⟨ji8, hji8⟩ : ∃ j_ : Int, (wrap64 (((rdOf ByteArray.empty t128 x6_1).size : Int) - 1)) = j_ := ⟨_, rfl⟩
            replace H : (if 0 ≤ (ji8) then (if (ji8) ≤ ((rdOf ByteArray.empty t128 x6_1).size : Int) then ((spec_l01Number.f k1 ((rdOf ByteArray.empty t128 x6_1).extract 0 ((ji8) : Int).toNat)).bind fun bt135 => (if bt135.2 = true then (spec_l01ReadAmount.j1 k1 a0 t128 x5_1 x6_1 ((rdOf ByteArray.empty t128 x6_1).size : Int) bt135.1 (decide (bt135.1 > 100000000))) else (spec_l01ReadAmount.j1 k1 a0 t128 x5_1 x6_1 ((rdOf ByteArray.empty t128 x6_1).size : Int) bt135.1 true))) else (none)) else (none)) = some (r1, r2) := by first | (rw [hji8] at H; exact H) | (simp only [hji8] at H ⊢; exact H)
            have hji8w : (IntKind.i64.wrap (((rdOf ByteArray.empty t128 x6_1).size : Int) - 1)) = ji8 := (i64_w _).trans hji8
            by_cases c9 : 0 ≤ (ji8)
            · rw [if_pos c9] at H
              have c9b0 := eq_true c9
              have c9b1 : decide (0 ≤ (ji8)) = true := decide_eq_true c9
              clear c9
              by_cases c10 : (ji8) ≤ ((rdOf ByteArray.empty t128 x6_1).size : Int)
              · rw [if_pos c10] at H
                have c10b0 := eq_true c10
                have c10b1 : decide ((ji8) ≤ ((rdOf ByteArray.empty t128 x6_1).size : Int)) = true := decide_eq_true c10
                clear c10
                replace H := Option.bind_eq_some_iff.mp H
                obtain ⟨⟨t135, t136⟩, A110, H⟩ := H
                replace H : (if t136 = true then (spec_l01ReadAmount.j1 k1 a0 t128 x5_1 x6_1 ((rdOf ByteArray.empty t128 x6_1).size : Int) t135 (decide (t135 > 100000000))) else (spec_l01ReadAmount.j1 k1 a0 t128 x5_1 x6_1 ((rdOf ByteArray.empty t128 x6_1).size : Int) t135 true)) = some (r1, r2) := H
                have A11 := Aside0.mk A110
                clear A110
                have HC12 := Aside0.mk H
                clear H
                obtain ⟨Ao13, co13, eo13⟩ := Kd.R_slice HO_4.out
                subst eo13
                have p133 : 0 ≤ (x6_1 : Int) := of_decide_eq_true (by first | (with_reducible assumption) | assumption)
                have q133 : x6_1 < (t128.length : Int) := of_decide_eq_true (by first | (with_reducible assumption) | assumption)
                obtain ⟨ad133, e133, hx133_0⟩ := Kd.at_string (Kd.R_reads' HO_4.out).2.2 x6_1 p133 q133
                cases e133
                replace p133 := eq_true p133
                replace q133 := eq_true q133
                have p134 : 0 ≤ (x6_1 : Int) := of_decide_eq_true (by first | (with_reducible assumption) | assumption)
                have q134 : x6_1 < (t128.length : Int) := of_decide_eq_true (by first | (with_reducible assumption) | assumption)
                obtain ⟨ad134, e134, hx134_0⟩ := Kd.at_string (Kd.R_reads' HO_4.out).2.2 x6_1 p134 q134
                obtain rfl : ad133 = ad134 := (by injection e134)
                replace p134 := eq_true p134
                replace q134 := eq_true q134
                go_upto_region 10 with (first | ((with_reducible refine gate_callee (f := 64) rfl ?_); refine goesL_ (some 33) rfl rfl Tryd.func64 (by kernel_rfl) rfl #[.string ((rdOf ByteArray.empty t128 x6_1).extract 0 ((ji8) : Int).toNat)] rfl (by (try simp only [List.map_toArray, List.map_cons, List.map_nil]); first | done | (simp only [hji8]; rfl) | (go_simp; done) | rfl | (simp only [List.length_drop, List.length_take]; rfl)) ?_; (with_reducible refine (spec_l01Number.calls k1 ((rdOf ByteArray.empty t128 x6_1).extract 0 ((ji8) : Int).toNat) t135 t136 _ A11.out).mono ?_); rintro e w' ⟨rfl, ⟨nd, rfl⟩⟩; refine ⟨_, rfl, ?_⟩))
                (try simp only [Act.put, List.setIfInBounds_toArray, List.set_cons_zero, List.set_cons_succ])
                go_cut [41] (fun v41 wc => ∃ (kq : Nat) (x41_11 : Bool), v41 = .bool x41_11 ∧ Aside0 (spec_l01ReadAmount.j1 kq a0 t128 x5_1 x6_1 ((rdOf ByteArray.empty t128 x6_1).size : Int) t135 x41_11 = some (r1, r2)) ∧ Aside0 (kq ≤ k1) ∧ Aside0 (Kd.R Kd.string 9 wc w.heap.size (fun _ => True) (.slice (some ad133) t128.length co13) t128) ∧ Aside0 (Below w.heap.size w wc))
                case first =>
                  have H := HC12.out
                  clear HC12
                  by_cases c14 : t136 = true
                  · subst c14
                    have H1 : (spec_l01ReadAmount.j1 k1 a0 t128 x5_1 x6_1 ((rdOf ByteArray.empty t128 x6_1).size : Int) t135 (decide (t135 > 100000000))) = some (r1, r2) := by rw [if_pos rfl] at H; exact H
                    clear H
                    have H := H1
                    clear H1
                    have H' := Aside0.mk H
                    clear H
                    go_wp2
                    go_meet
                    case rel => exact ⟨_, (decide (t135 > 100000000)), (by first | rfl | (simp; done) | (simp [*]; done)), H', ⟨by have := HK1.out; first | omega | exact Nat.le_refl _⟩, ⟨by (with_reducible repeat (first | apply Kd.R_alloc | apply Kd.R_drewN | apply Kd.R_drew)); exact HO_4.out⟩, ⟨by repeat (first | (with_reducible first | exact HB.out | apply below_alloc | apply pw_below_drewN | apply below_drew1) | exact HB.out)⟩⟩
                  · replace c14 := Bool.eq_false_iff.mpr c14
                    subst c14
                    have H1 : (spec_l01ReadAmount.j1 k1 a0 t128 x5_1 x6_1 ((rdOf ByteArray.empty t128 x6_1).size : Int) t135 true) = some (r1, r2) := by rw [if_neg (show ¬ (false = true) by decide)] at H; exact H
                    clear H
                    have H := H1
                    clear H1
                    have H' := Aside0.mk H
                    clear H
                    go_wp2
                    go_meet
                    case rel => exact ⟨_, (true), (by first | rfl | (simp; done) | (simp [*]; done)), H', ⟨by have := HK1.out; first | omega | exact Nat.le_refl _⟩, ⟨by (with_reducible repeat (first | apply Kd.R_alloc | apply Kd.R_drewN | apply Kd.R_drew)); exact HO_4.out⟩, ⟨by repeat (first | (with_reducible first | exact HB.out | apply below_alloc | apply pw_below_drewN | apply below_drew1) | exact HB.out)⟩⟩
                case rest =>
                  clear HC12
                  try clear c1
                  try clear p1
                  try clear q1
                  try clear hx1
                  try clear p2
                  try clear c4
                  try clear c4b0
                  try clear c5
                  try clear c5b0
                  try clear c6
                  try clear c6b0
                  try clear c6b1
                  try clear p6
                  try clear c9
                  try clear c9b0
                  try clear c9b1
                  try clear c10
                  try clear c10b0
                  try clear c10b1
                  try clear p13
                  try clear q13
                  try clear hx13
                  try clear c14
                  try clear hx133_0
                  try clear hx134_0
                  try clear p133
                  try clear p134
                  try clear p2
                  try clear q133
                  try clear q134
                  obtain ⟨kq, x41_11, rfl, HA, HJ11, HO_4, HB⟩ := hcut
                  cases kq with
                  | zero => exact absurd HA.out (by simp [spec_l01ReadAmount.j1])
                  | succ kj11 =>
                    have H := HA.out
                    clear HA
                    simp only [spec_l01ReadAmount.j1] at H
                    by_cases c15 : x41_11 = true
                    · subst c15
                      have H1 : (some (0, false)) = some (r1, r2) := by rw [if_pos rfl] at H; exact H
                      clear H
                      have H := H1
                      clear H1
                      simp only [Option.some.injEq, Prod.mk.injEq] at H
                      obtain ⟨rfl, rfl⟩ := H
                      go_wp2
                      go_ret2
                      exact ⟨by first | rfl | (simp [errW_none, errW_some] <;> rfl) | (simp only [← hji8]; first | rfl | (simp [errW_none, errW_some] <;> rfl)) | (simp [*, errW_none, errW_some] <;> rfl), by repeat (first | (with_reducible first | exact HB.out | apply below_alloc | apply pw_below_drewN | apply below_drew1) | exact HB.out)⟩
                    · replace c15 := Bool.eq_false_iff.mpr c15
                      subst c15
                      have H1 : (if 0 ≤ x6_1 then (if x6_1 < (t128.length : Int) then (if 0 ≤ (wrap64 (((rdOf ByteArray.empty t128 x6_1).size : Int) - 1)) then (if (wrap64 (((rdOf ByteArray.empty t128 x6_1).size : Int) - 1)) < ((rdOf ByteArray.empty t128 x6_1).size : Int) then (if (bt (rdOf ByteArray.empty t128 x6_1) (wrap64 (((rdOf ByteArray.empty t128 x6_1).size : Int) - 1))) = 108 then (spec_l01ReadAmount.l0 kj11 a0 t128 (wrap64 (x5_1 + (wrap64 (240 * t135)))) (wrap64 (x6_1 + 1))) else (if (bt (rdOf ByteArray.empty t128 x6_1) (wrap64 (((rdOf ByteArray.empty t128 x6_1).size : Int) - 1))) = 115 then (spec_l01ReadAmount.l0 kj11 a0 t128 (wrap64 (x5_1 + (wrap64 (12 * t135)))) (wrap64 (x6_1 + 1))) else (if (bt (rdOf ByteArray.empty t128 x6_1) (wrap64 (((rdOf ByteArray.empty t128 x6_1).size : Int) - 1))) = 100 then (spec_l01ReadAmount.l0 kj11 a0 t128 (wrap64 (x5_1 + t135)) (wrap64 (x6_1 + 1))) else (some (0, false))))) else (none)) else (none)) else (none)) else (none)) = some (r1, r2) := by rw [if_neg (show ¬ (false = true) by decide)] at H; exact H
                      clear H
                      have H := H1
                      clear H1
                      by_cases c16 : 0 ≤ x6_1
                      · rw [if_pos c16] at H
                        have c16b0 : decide (0 ≤ x6_1) = true := decide_eq_true c16
                        clear c16
                        by_cases c17 : x6_1 < (t128.length : Int)
                        · rw [if_pos c17] at H
                          have c17b0 : decide (x6_1 < (t128.length : Int)) = true := decide_eq_true c17
                          clear c17
                          obtain ⟨ji18, hji18⟩ : ∃ j_ : Int, (wrap64 (((rdOf ByteArray.empty t128 x6_1).size : Int) - 1)) = j_ := ⟨_, rfl⟩
                          replace H : (if 0 ≤ (ji18) then (if (ji18) < ((rdOf ByteArray.empty t128 x6_1).size : Int) then (if (bt (rdOf ByteArray.empty t128 x6_1) (ji18)) = 108 then (spec_l01ReadAmount.l0 kj11 a0 t128 (wrap64 (x5_1 + (wrap64 (240 * t135)))) (wrap64 (x6_1 + 1))) else (if (bt (rdOf ByteArray.empty t128 x6_1) (ji18)) = 115 then (spec_l01ReadAmount.l0 kj11 a0 t128 (wrap64 (x5_1 + (wrap64 (12 * t135)))) (wrap64 (x6_1 + 1))) else (if (bt (rdOf ByteArray.empty t128 x6_1) (ji18)) = 100 then (spec_l01ReadAmount.l0 kj11 a0 t128 (wrap64 (x5_1 + t135)) (wrap64 (x6_1 + 1))) else (some (0, false))))) else (none)) else (none)) = some (r1, r2) := by first | (rw [hji18] at H; exact H) | (simp only [hji18] at H ⊢; exact H)
                          have hji18w : (IntKind.i64.wrap (((rdOf ByteArray.empty t128 x6_1).size : Int) - 1)) = ji18 := (i64_w _).trans hji18
                          try replace hji8w := hji8w.trans (hji8.symm.trans hji18)
                          by_cases c19 : 0 ≤ (ji18)
                          · rw [if_pos c19] at H
                            have c19b0 : decide (0 ≤ (ji18)) = true := decide_eq_true c19
                            clear c19
                            by_cases c20 : (ji18) < ((rdOf ByteArray.empty t128 x6_1).size : Int)
                            · rw [if_pos c20] at H
                              have c20b0 : decide ((ji18) < ((rdOf ByteArray.empty t128 x6_1).size : Int)) = true := decide_eq_true c20
                              clear c20
                              by_cases c22 : (bt (rdOf ByteArray.empty t128 x6_1) (ji18)) = 108
                              · rw [if_pos c22] at H
                                have c22b0 : ((bt (rdOf ByteArray.empty t128 x6_1) (ji18)) == 108) = true := beq_iff_eq.mpr c22
                                have c22b1 : ((bt (rdOf ByteArray.empty t128 x6_1) (ji18)) != 108) = false := bne_eq_false_iff_eq.mpr c22
                                clear c22
                                have H' := Aside0.mk H
                                clear H
                                have p137 : 0 ≤ (x6_1 : Int) := of_decide_eq_true (by first | (with_reducible assumption) | assumption)
                                have q137 : x6_1 < (t128.length : Int) := of_decide_eq_true (by first | (with_reducible assumption) | assumption)
                                obtain ⟨ad137, e137, hx137_0⟩ := Kd.at_string (Kd.R_reads' HO_4.out).2.2 x6_1 p137 q137
                                obtain rfl : ad133 = ad137 := (by injection e137)
                                replace p137 := eq_true p137
                                replace q137 := eq_true q137
                                have p21 : 0 ≤ ((ji18) : Int) := of_decide_eq_true (by first | (with_reducible assumption) | assumption)
                                have q21 : (ji18) < ((rdOf ByteArray.empty t128 x6_1).size : Int) := of_decide_eq_true (by first | (with_reducible assumption) | assumption)
                                have hx21 := bt_at (rdOf ByteArray.empty t128 x6_1) (ji18)
                                replace p21 := eq_true p21
                                replace q21 := eq_true q21
                                go_wp2
                                go_roundg kj11
                                case measure => have := HK1.out; have := HJ11.out; omega
                                case rel => exact ⟨(wrap64 (x5_1 + (wrap64 (240 * t135)))), (wrap64 (x6_1 + 1)), (by first | rfl | (simp; done) | (simp [*]; done)), (by first | rfl | (simp; done) | (simp [*]; done)), H', ⟨by have := HK1.out; have := HJ11.out; omega⟩, ⟨by (with_reducible repeat (first | apply Kd.R_alloc | apply Kd.R_drewN | apply Kd.R_drew)); exact HO_4.out⟩, ⟨by repeat (first | (with_reducible first | exact HB.out | apply below_alloc | apply pw_below_drewN | apply below_drew1) | exact HB.out)⟩⟩
                              · rw [if_neg c22] at H
                                have c22b0 : ((bt (rdOf ByteArray.empty t128 x6_1) (ji18)) == 108) = false := beq_eq_false_iff_ne.mpr c22
                                have c22b1 : ((bt (rdOf ByteArray.empty t128 x6_1) (ji18)) != 108) = true := bne_iff_ne.mpr c22
                                by_cases c23 : (bt (rdOf ByteArray.empty t128 x6_1) (ji18)) = 115
                                · rw [if_pos c23] at H
                                  have c23b0 : ((bt (rdOf ByteArray.empty t128 x6_1) (ji18)) == 115) = true := beq_iff_eq.mpr c23
                                  have c23b1 : ((bt (rdOf ByteArray.empty t128 x6_1) (ji18)) != 115) = false := bne_eq_false_iff_eq.mpr c23
                                  clear c23
                                  have H' := Aside0.mk H
                                  clear H
                                  have p137 : 0 ≤ (x6_1 : Int) := of_decide_eq_true (by first | (with_reducible assumption) | assumption)
                                  have q137 : x6_1 < (t128.length : Int) := of_decide_eq_true (by first | (with_reducible assumption) | assumption)
                                  obtain ⟨ad137, e137, hx137_0⟩ := Kd.at_string (Kd.R_reads' HO_4.out).2.2 x6_1 p137 q137
                                  obtain rfl : ad133 = ad137 := (by injection e137)
                                  replace p137 := eq_true p137
                                  replace q137 := eq_true q137
                                  have p21 : 0 ≤ ((ji18) : Int) := of_decide_eq_true (by first | (with_reducible assumption) | assumption)
                                  have q21 : (ji18) < ((rdOf ByteArray.empty t128 x6_1).size : Int) := of_decide_eq_true (by first | (with_reducible assumption) | assumption)
                                  have hx21 := bt_at (rdOf ByteArray.empty t128 x6_1) (ji18)
                                  replace p21 := eq_true p21
                                  replace q21 := eq_true q21
                                  go_wp2
                                  go_roundg kj11
                                  case measure => have := HK1.out; have := HJ11.out; omega
                                  case rel => exact ⟨(wrap64 (x5_1 + (wrap64 (12 * t135)))), (wrap64 (x6_1 + 1)), (by first | rfl | (simp; done) | (simp [*]; done)), (by first | rfl | (simp; done) | (simp [*]; done)), H', ⟨by have := HK1.out; have := HJ11.out; omega⟩, ⟨by (with_reducible repeat (first | apply Kd.R_alloc | apply Kd.R_drewN | apply Kd.R_drew)); exact HO_4.out⟩, ⟨by repeat (first | (with_reducible first | exact HB.out | apply below_alloc | apply pw_below_drewN | apply below_drew1) | exact HB.out)⟩⟩
                                · rw [if_neg c23] at H
                                  have c23b0 : ((bt (rdOf ByteArray.empty t128 x6_1) (ji18)) == 115) = false := beq_eq_false_iff_ne.mpr c23
                                  have c23b1 : ((bt (rdOf ByteArray.empty t128 x6_1) (ji18)) != 115) = true := bne_iff_ne.mpr c23
                                  by_cases c24 : (bt (rdOf ByteArray.empty t128 x6_1) (ji18)) = 100
                                  · rw [if_pos c24] at H
                                    have c24b0 : ((bt (rdOf ByteArray.empty t128 x6_1) (ji18)) == 100) = true := beq_iff_eq.mpr c24
                                    have c24b1 : ((bt (rdOf ByteArray.empty t128 x6_1) (ji18)) != 100) = false := bne_eq_false_iff_eq.mpr c24
                                    clear c24
                                    have H' := Aside0.mk H
                                    clear H
                                    have p137 : 0 ≤ (x6_1 : Int) := of_decide_eq_true (by first | (with_reducible assumption) | assumption)
                                    have q137 : x6_1 < (t128.length : Int) := of_decide_eq_true (by first | (with_reducible assumption) | assumption)
                                    obtain ⟨ad137, e137, hx137_0⟩ := Kd.at_string (Kd.R_reads' HO_4.out).2.2 x6_1 p137 q137
                                    obtain rfl : ad133 = ad137 := (by injection e137)
                                    replace p137 := eq_true p137
                                    replace q137 := eq_true q137
                                    have p21 : 0 ≤ ((ji18) : Int) := of_decide_eq_true (by first | (with_reducible assumption) | assumption)
                                    have q21 : (ji18) < ((rdOf ByteArray.empty t128 x6_1).size : Int) := of_decide_eq_true (by first | (with_reducible assumption) | assumption)
                                    have hx21 := bt_at (rdOf ByteArray.empty t128 x6_1) (ji18)
                                    replace p21 := eq_true p21
                                    replace q21 := eq_true q21
                                    go_wp2
                                    go_roundg kj11
                                    case measure => have := HK1.out; have := HJ11.out; omega
                                    case rel => exact ⟨(wrap64 (x5_1 + t135)), (wrap64 (x6_1 + 1)), (by first | rfl | (simp; done) | (simp [*]; done)), (by first | rfl | (simp; done) | (simp [*]; done)), H', ⟨by have := HK1.out; have := HJ11.out; omega⟩, ⟨by (with_reducible repeat (first | apply Kd.R_alloc | apply Kd.R_drewN | apply Kd.R_drew)); exact HO_4.out⟩, ⟨by repeat (first | (with_reducible first | exact HB.out | apply below_alloc | apply pw_below_drewN | apply below_drew1) | exact HB.out)⟩⟩
                                  · rw [if_neg c24] at H
                                    have c24b0 : ((bt (rdOf ByteArray.empty t128 x6_1) (ji18)) == 100) = false := beq_eq_false_iff_ne.mpr c24
                                    have c24b1 : ((bt (rdOf ByteArray.empty t128 x6_1) (ji18)) != 100) = true := bne_iff_ne.mpr c24
                                    simp only [Option.some.injEq, Prod.mk.injEq] at H
                                    obtain ⟨rfl, rfl⟩ := H
                                    have p137 : 0 ≤ (x6_1 : Int) := of_decide_eq_true (by first | (with_reducible assumption) | assumption)
                                    have q137 : x6_1 < (t128.length : Int) := of_decide_eq_true (by first | (with_reducible assumption) | assumption)
                                    obtain ⟨ad137, e137, hx137_0⟩ := Kd.at_string (Kd.R_reads' HO_4.out).2.2 x6_1 p137 q137
                                    obtain rfl : ad133 = ad137 := (by injection e137)
                                    replace p137 := eq_true p137
                                    replace q137 := eq_true q137
                                    have p21 : 0 ≤ ((ji18) : Int) := of_decide_eq_true (by first | (with_reducible assumption) | assumption)
                                    have q21 : (ji18) < ((rdOf ByteArray.empty t128 x6_1).size : Int) := of_decide_eq_true (by first | (with_reducible assumption) | assumption)
                                    have hx21 := bt_at (rdOf ByteArray.empty t128 x6_1) (ji18)
                                    replace p21 := eq_true p21
                                    replace q21 := eq_true q21
                                    go_wp2
                                    go_ret2
                                    exact ⟨by first | rfl | (simp [errW_none, errW_some] <;> rfl) | (simp only [← hji8, ← hji18]; first | rfl | (simp [errW_none, errW_some] <;> rfl)) | (simp [*, errW_none, errW_some] <;> rfl), by repeat (first | (with_reducible first | exact HB.out | apply below_alloc | apply pw_below_drewN | apply below_drew1) | exact HB.out)⟩
                            · rw [if_neg c20] at H
                              exact absurd H (by simp)
                          · rw [if_neg c19] at H
                            exact absurd H (by simp)
                        · rw [if_neg c17] at H
                          exact absurd H (by simp)
                      · rw [if_neg c16] at H
                        exact absurd H (by simp)
              · rw [if_neg c10] at H
                exact absurd H (by simp)
            · rw [if_neg c9] at H
              exact absurd H (by simp)
        · rw [if_neg c5] at H
          exact absurd H (by simp)
      · rw [if_neg c4] at H
        have c4b0 : decide (x6_1 < (t128.length : Int)) = false := decide_eq_false c4
        clear c4
        replace H := Option.bind_eq_some_iff.mp H
        obtain ⟨t131, A250, H⟩ := H
        replace H : (if t131 = true then ((spec_l01AmountText.f k1 x5_1).bind fun t132 => (some (x5_1, (t132.toList == a0.toList)))) else (some (x5_1, false))) = some (r1, r2) := H
        have A25 := Aside0.mk A250
        clear A250
        by_cases c26 : t131 = true
        · subst c26
          have H1 : ((spec_l01AmountText.f k1 x5_1).bind fun t132 => (some (x5_1, (t132.toList == a0.toList)))) = some (r1, r2) := by rw [if_pos rfl] at H; exact H
          clear H
          have H := H1
          clear H1
          replace H := Option.bind_eq_some_iff.mp H
          obtain ⟨t132, A270, H⟩ := H
          replace H : (some (x5_1, (t132.toList == a0.toList))) = some (r1, r2) := H
          have A27 := Aside0.mk A270
          clear A270
          simp only [Option.some.injEq, Prod.mk.injEq] at H
          obtain ⟨rfl, rfl⟩ := H
          obtain ⟨Ao28, co28, eo28⟩ := Kd.R_slice HO_4.out
          subst eo28
          go_wp2_with (first | ((with_reducible refine gate_callee (f := 84) rfl ?_); refine goesL_ (some 68) rfl rfl Tryd.func84 (by kernel_rfl) rfl #[.int .i64 x5_1] rfl (by (try simp only [List.map_toArray, List.map_cons, List.map_nil]); first | done | (go_simp; done) | rfl | (simp only [List.length_drop, List.length_take]; rfl)) ?_; (with_reducible refine (spec_l01Amount.calls x5_1 true _ A25.out).mono ?_); rintro e w' ⟨rfl, ⟨nd, rfl⟩⟩; refine ⟨_, rfl, ?_⟩) | (go_at_call 100; (with_reducible refine (spec_l01AmountText.calls k1 x5_1 t132 _ A27.out).mono ?_); rintro e w29 ⟨rfl, hb⟩; have n0_ := Aside0.mk (Kd.R_below (by (with_reducible repeat (first | apply Kd.R_alloc | apply Kd.R_drewN | apply Kd.R_drew)); exact HO_4.out) hb); have n1_ := Aside0.mk (below_step (by repeat (first | (with_reducible first | exact HB.out | apply below_alloc | apply pw_below_drewN | apply below_drew1) | exact HB.out)) hb); clear HO_4; clear HB; have HO_4 := n0_; have HB := n1_; clear n0_ n1_; (try clear hb); (try clear hb2); (try clear hk); (try clear hi)))
          go_ret2
          exact ⟨by first | rfl | (simp [errW_none, errW_some] <;> rfl) | (simp [*, errW_none, errW_some] <;> rfl), by repeat (first | (with_reducible first | exact HB.out | apply below_alloc | apply pw_below_drewN | apply below_drew1) | exact HB.out)⟩
        · replace c26 := Bool.eq_false_iff.mpr c26
          subst c26
          have H1 : (some (x5_1, false)) = some (r1, r2) := by rw [if_neg (show ¬ (false = true) by decide)] at H; exact H
          clear H
          have H := H1
          clear H1
          simp only [Option.some.injEq, Prod.mk.injEq] at H
          obtain ⟨rfl, rfl⟩ := H
          obtain ⟨Ao30, co30, eo30⟩ := Kd.R_slice HO_4.out
          subst eo30
          go_wp2_with (first | ((with_reducible refine gate_callee (f := 84) rfl ?_); refine goesL_ (some 68) rfl rfl Tryd.func84 (by kernel_rfl) rfl #[.int .i64 x5_1] rfl (by (try simp only [List.map_toArray, List.map_cons, List.map_nil]); first | done | (go_simp; done) | rfl | (simp only [List.length_drop, List.length_take]; rfl)) ?_; (with_reducible refine (spec_l01Amount.calls x5_1 false _ A25.out).mono ?_); rintro e w' ⟨rfl, ⟨nd, rfl⟩⟩; refine ⟨_, rfl, ?_⟩))
          go_ret2
          exact ⟨by first | rfl | (simp [errW_none, errW_some] <;> rfl) | (simp [*, errW_none, errW_some] <;> rfl), by repeat (first | (with_reducible first | exact HB.out | apply below_alloc | apply pw_below_drewN | apply below_drew1) | exact HB.out)⟩

/-! ### spec_l02Person: function 104 -/
def spec_l02Person.f (a0 : Int) (a1 : Int) : Option (Bool) := (spec_l00In.f a1 0 (wrap64 (a0 - 1))).bind fun t138 => (some t138)
set_option maxHeartbeats 8000000 in
set_option maxRecDepth 100000 in
theorem spec_l02Person.calls (a0 : Int) (a1 : Int) (r : Bool) (w : World) (h : spec_l02Person.f a0 a1 = some r) :
    Calls Tryd.prog 104 #[.int .i64 a0, .int .i64 a1] w fun e w' => e = .returned (.bool r) ∧ Drawn0 w w' := by
  have H : ((spec_l00In.f a1 0 (wrap64 (a0 - 1))).bind fun t138 => (some t138)) = some r := h
  clear h
  replace H := Option.bind_eq_some_iff.mp H
  obtain ⟨t138, A30, H⟩ := H
  replace H : (some t138) = some r := H
  have A3 := Aside0.mk A30
  clear A30
  obtain rfl := Option.some.inj H
  go_enter Tryd.func104, Tryd.ntmps104
  go_wp2_with (first | ((with_reducible refine gate_callee (f := 103) rfl ?_); refine goesL_ (some 8) rfl rfl Tryd.func103 (by kernel_rfl) rfl #[.int .i64 a1, .int .i64 0, .int .i64 (wrap64 (a0 - 1))] rfl (by (try simp only [List.map_toArray, List.map_cons, List.map_nil]); first | done | (go_simp; done) | rfl | (simp only [List.length_drop, List.length_take]; rfl)) ?_; (with_reducible refine (spec_l00In.calls a1 0 (wrap64 (a0 - 1)) t138 _ A3.out).mono ?_); rintro e w' ⟨rfl, ⟨nd, rfl⟩⟩; refine ⟨_, rfl, ?_⟩))
  go_ret
  exact ⟨by first | rfl | (simp; done) | (simp [*]; done), by repeat (first | exact Drawn0.refl _ | apply Drawn0.step)⟩

end Go.Proofs.YtfjmljgbdejghaaDoor.MReadDebts
