-- by a program of this session, for this claim
import Derived.Test.YtfjmljgbdejghaaDoorMReadDebtsx0
import Derived.Test.YtfjmljgbdejghaaDoorMReadDebtsx6
namespace Go.Proofs.YtfjmljgbdejghaaDoor.MReadDebts
open Go.RowKit Go.Proofs.YtfjmljgbdejghaaDoorW.PrintWords Go.Proofs.YtfjmljgbdejghaaDoorW.PrintLast Go.Proofs.YtfjmljgbdejghaaDoorW.PrintMore
attribute [local go_sem] max2_int min2_int max_two min_two max_three min_three max_four min_four   -- for this text's walks alone
set_option linter.unusedVariables false
set_option linter.unusedSimpArgs false

/-! ### impl_ReadAmount: function 11 -/
def impl_ReadAmount.l0 : Nat → ByteArray → Int → List ByteArray → Int → Int → Option (Int × Int)
  | 0, _, _, _, _, _ => none
  | k + 1, x0, x4, x14, x15, x16 => if x16 < x15 then (if 0 ≤ x16 then (if x16 < (x14.length : Int) then (if (rdOf ByteArray.empty x14 x16).toList = ([] : List UInt8) then (some (0, 5)) else (if 0 ≤ (wrap64 (((rdOf ByteArray.empty x14 x16).size : Int) - 1)) then (if (wrap64 (((rdOf ByteArray.empty x14 x16).size : Int) - 1)) ≤ ((rdOf ByteArray.empty x14 x16).size : Int) then ((impl_number.f k ((rdOf ByteArray.empty x14 x16).extract 0 ((wrap64 (((rdOf ByteArray.empty x14 x16).size : Int) - 1)) : Int).toNat)).bind fun bt213 => (if (wrap64 (((rdOf ByteArray.empty x14 x16).size : Int) - 1)) < ((rdOf ByteArray.empty x14 x16).size : Int) then ((strings_IndexByte.f (⟨#[100, 115, 108]⟩ : ByteArray) (bt (rdOf ByteArray.empty x14 x16) (wrap64 (((rdOf ByteArray.empty x14 x16).size : Int) - 1)))).bind fun t215 => (if bt213.2 = true then (if t215 < 0 then (some (0, 5)) else ((impl_worth.f t215).bind fun t216 => (impl_ReadAmount.l0 k x0 (wrap64 (x4 + (wrap64 (bt213.1 * t216)))) x14 x15 (wrap64 (x16 + 1))))) else (some (0, 5)))) else (none))) else (none)) else (none))) else (none)) else (none)) else ((impl_AmountText.f k x4).bind fun t211 => (if t211.toList = x0.toList then (some (x4, 0)) else (some (0, 5))))
def impl_ReadAmount.f (k : Nat) (a0 : ByteArray) : Option (Int × Int) := if (a0.size : Int) > 30 then (some (0, 5)) else ((strings_Split.f a0 (⟨#[32]⟩ : ByteArray)).bind fun t208 => (impl_ReadAmount.l0 k a0 0 t208 (t208.length : Int) 0))
theorem impl_ReadAmount.mono_l : ∀ k, (∀ y0 y1 y2 y3 y4, LeO (impl_ReadAmount.l0 k y0 y1 y2 y3 y4) (impl_ReadAmount.l0 (k + 1) y0 y1 y2 y3 y4))
  | 0 => fun _ _ _ _ _ r h => by simp [impl_ReadAmount.l0] at h
  | k + 1 => by
    have ih0 := impl_ReadAmount.mono_l k
    · intro y0 y1 y2 y3 y4
      unfold impl_ReadAmount.l0
      repeat' first
      | (with_reducible exact ih0 _ _ _ _ _)
      | (with_reducible exact impl_AmountText.mono _ _)
      | (with_reducible exact impl_number.mono _ _)
      | (with_reducible exact LeO.refl _)
      | (with_reducible exact LeO.none _)
      | (with_reducible refine LeO.ite ?_ ?_)
      | (with_reducible refine LeO.bind ?_ (fun _ => ?_))
      | exact ih0 _ _ _ _ _
      | exact impl_AmountText.mono _ _
      | exact impl_number.mono _ _
      | exact LeO.none _
      | refine LeO.ite ?_ ?_
      | refine LeO.bind ?_ (fun _ => ?_)
theorem impl_ReadAmount.mono : ∀ a0 k, LeO (impl_ReadAmount.f k a0) (impl_ReadAmount.f (k + 1) a0) := by
  intro a0 k
  have ih0 := impl_ReadAmount.mono_l k
  unfold impl_ReadAmount.f
  repeat' first
      | (with_reducible exact ih0 _ _ _ _ _)
      | (with_reducible exact impl_AmountText.mono _ _)
      | (with_reducible exact impl_number.mono _ _)
      | (with_reducible exact LeO.refl _)
      | (with_reducible exact LeO.none _)
      | (with_reducible refine LeO.ite ?_ ?_)
      | (with_reducible refine LeO.bind ?_ (fun _ => ?_))
      | exact ih0 _ _ _ _ _
      | exact impl_AmountText.mono _ _
      | exact impl_number.mono _ _
      | exact LeO.none _
      | refine LeO.ite ?_ ?_
      | refine LeO.bind ?_ (fun _ => ?_)
set_option maxHeartbeats 8000000 in
set_option maxRecDepth 100000 in
theorem impl_ReadAmount.calls (k : Nat) (a0 : ByteArray) (r1 : Int) (r2 : Int) (w : World) (hT : Tt.TT w) (h : impl_ReadAmount.f k a0 = some (r1, r2)) :
    Calls Tryd.prog 11 #[.string a0] w fun e w' => e = .returned (.tuple #[.int .i64 r1, .int .i64 r2]) ∧ Below w.heap.size w w' := by
  have HB := Aside0.mk (Below.refl w.heap.size w)
  have H : (if (a0.size : Int) > 30 then (some (0, 5)) else ((strings_Split.f a0 (⟨#[32]⟩ : ByteArray)).bind fun t208 => (impl_ReadAmount.l0 k a0 0 t208 (t208.length : Int) 0))) = some (r1, r2) := h
  clear h
  by_cases c2 : (a0.size : Int) > 30
  · rw [if_pos c2] at H
    have c2b0 : decide (30 < (a0.size : Int)) = true := decide_eq_true c2
    have c2b1 : decide (30 < a0.size) = true := decide_eq_true (by omega)
    clear c2
    simp only [Option.some.injEq, Prod.mk.injEq] at H
    obtain ⟨rfl, rfl⟩ := H
    go_enter Tryd.func11, Tryd.ntmps11
    go_wp2
    go_ret2
    exact ⟨by first | rfl | (simp [errW_none, errW_some] <;> rfl) | (simp [*, errW_none, errW_some] <;> rfl), by repeat (first | (with_reducible first | exact HB.out | apply below_alloc | apply pw_below_drewN | apply below_drew1) | exact HB.out)⟩
  · rw [if_neg c2] at H
    have c2b0 : decide (30 < (a0.size : Int)) = false := decide_eq_false c2
    have c2b1 : decide (30 < a0.size) = false := decide_eq_false (by omega)
    clear c2
    replace H := Option.bind_eq_some_iff.mp H
    obtain ⟨t208, A30, H⟩ := H
    replace H : (impl_ReadAmount.l0 k a0 0 t208 (t208.length : Int) 0) = some (r1, r2) := H
    have A3 := Aside0.mk A30
    clear A30
    have H' := Aside0.mk H
    clear H
    go_enter Tryd.func11, Tryd.ntmps11
    go_wp2_with (first | ((with_reducible refine gate_callee (f := 54) rfl ?_); refine goesL_ (some 14) rfl rfl Tryd.func54 (by kernel_rfl) rfl #[.string a0, .string (⟨#[32]⟩ : ByteArray)] rfl (by (try simp only [List.map_toArray, List.map_cons, List.map_nil]); first | done | (go_simp; done) | rfl | (simp only [List.length_drop, List.length_take]; rfl)) ?_; (with_reducible refine (strings_Split.calls a0 (⟨#[32]⟩ : ByteArray) t208 _ ?side1 A3.out).mono ?_); (case side1 => first | exact hT | exact Tt.TT_on hT (by repeat (first | (with_reducible first | exact HB.out | apply below_alloc | apply pw_below_drewN | apply below_drew1) | exact HB.out))); rintro e w4 ⟨v209, rfl, ho0, hb⟩; refine ⟨_, rfl, ?_⟩; have n0_ := Aside0.mk (Kd.R_lower ho0 (below_size (by repeat (first | (with_reducible first | exact HB.out | apply below_alloc | apply pw_below_drewN | apply below_drew1) | exact HB.out)))); have n1_ := Aside0.mk (below_step (by repeat (first | (with_reducible first | exact HB.out | apply below_alloc | apply pw_below_drewN | apply below_drew1) | exact HB.out)) hb); clear HB; have HO210 := n0_; have HB := n1_; clear n0_ n1_; (try clear hb); (try clear hb2); (try clear hk); (try clear hi); (try clear ho0); obtain ⟨Ao5, co5, eo5⟩ := Kd.R_slice HO210.out; subst eo5))
    go_loopg [4, 16] k (fun kq v4 v16 w' => ∃ (x4_1 : Int) (x16_1 : Int), v4 = .int .i64 x4_1 ∧ v16 = .int .i64 x16_1 ∧ Aside0 (impl_ReadAmount.l0 kq a0 x4_1 t208 (t208.length : Int) x16_1 = some (r1, r2)) ∧ Aside0 (kq ≤ k) ∧ Aside0 (Kd.R Kd.string 9 w' w.heap.size (fun _ => True) (.slice Ao5 t208.length co5) t208) ∧ Aside0 (Below w.heap.size w w'))
    case atStart => exact ⟨(0), (0), (by first | rfl | (simp; done) | (simp [*]; done)), (by first | rfl | (simp; done) | (simp [*]; done)), H', ⟨Nat.le_refl _⟩, ⟨by (with_reducible repeat (first | apply Kd.R_alloc | apply Kd.R_drewN | apply Kd.R_drew)); exact HO210.out⟩, ⟨by repeat (first | (with_reducible first | exact HB.out | apply below_alloc | apply pw_below_drewN | apply below_drew1) | exact HB.out)⟩⟩
    case round =>
      clear H'
      try clear c1
      try clear c2
      try clear c2b0
      try clear c2b1
      try clear p2
      try clear c5
      obtain ⟨x4_1, x16_1, rfl, rfl, HA, HK1, HO_14, HB⟩ := hrel
      cases gk with
      | zero => exact absurd HA.out (by simp [impl_ReadAmount.l0])
      | succ k1 =>
        have H := HA.out
        clear HA
        simp only [impl_ReadAmount.l0] at H
        by_cases c6 : x16_1 < (t208.length : Int)
        · rw [if_pos c6] at H
          have c6b0 : decide (x16_1 < (t208.length : Int)) = true := decide_eq_true c6
          clear c6
          by_cases c7 : 0 ≤ x16_1
          · rw [if_pos c7] at H
            have c7b0 : decide (0 ≤ x16_1) = true := decide_eq_true c7
            clear c7
            by_cases c8 : x16_1 < (t208.length : Int)
            · rw [if_pos c8] at H
              have c8b0 : decide (x16_1 < (t208.length : Int)) = true := decide_eq_true c8
              clear c8
              by_cases c9 : (rdOf ByteArray.empty t208 x16_1).toList = ([] : List UInt8)
              · rw [if_pos c9] at H
                have c9b0 : ((rdOf ByteArray.empty t208 x16_1).toList == ([] : List UInt8)) = true := beq_iff_eq.mpr c9
                have c9b1 : ((rdOf ByteArray.empty t208 x16_1).toList != ([] : List UInt8)) = false := bne_eq_false_iff_eq.mpr c9
                clear c9
                simp only [Option.some.injEq, Prod.mk.injEq] at H
                obtain ⟨rfl, rfl⟩ := H
                have p212 : 0 ≤ (x16_1 : Int) := of_decide_eq_true (by first | (with_reducible assumption) | assumption)
                have q212 : x16_1 < (t208.length : Int) := of_decide_eq_true (by first | (with_reducible assumption) | assumption)
                obtain ⟨ad212, e212, hx212_0⟩ := Kd.at_string (Kd.R_reads' HO_14.out).2.2 x16_1 p212 q212
                cases e212
                replace p212 := eq_true p212
                replace q212 := eq_true q212
                go_wp2
                go_ret2
                exact ⟨by first | rfl | (simp [errW_none, errW_some] <;> rfl) | (simp [*, errW_none, errW_some] <;> rfl), by repeat (first | (with_reducible first | exact HB.out | apply below_alloc | apply pw_below_drewN | apply below_drew1) | exact HB.out)⟩
              · rw [if_neg c9] at H
                have c9b0 : ((rdOf ByteArray.empty t208 x16_1).toList == ([] : List UInt8)) = false := beq_eq_false_iff_ne.mpr c9
                have c9b1 : ((rdOf ByteArray.empty t208 x16_1).toList != ([] : List UInt8)) = true := bne_iff_ne.mpr c9
                obtain ⟨ji10, hji10⟩ : ∃ j_ : Int, (wrap64 (((rdOf ByteArray.empty t208 x16_1).size : Int) - 1)) = j_ := ⟨_, rfl⟩
                replace H : (if 0 ≤ (ji10) then (if (ji10) ≤ ((rdOf ByteArray.empty t208 x16_1).size : Int) then ((impl_number.f k1 ((rdOf ByteArray.empty t208 x16_1).extract 0 ((ji10) : Int).toNat)).bind fun bt213 => (if (ji10) < ((rdOf ByteArray.empty t208 x16_1).size : Int) then ((strings_IndexByte.f (⟨#[100, 115, 108]⟩ : ByteArray) (bt (rdOf ByteArray.empty t208 x16_1) (ji10))).bind fun t215 => (if bt213.2 = true then (if t215 < 0 then (some (0, 5)) else ((impl_worth.f t215).bind fun t216 => (impl_ReadAmount.l0 k1 a0 (wrap64 (x4_1 + (wrap64 (bt213.1 * t216)))) t208 (t208.length : Int) (wrap64 (x16_1 + 1))))) else (some (0, 5)))) else (none))) else (none)) else (none)) = some (r1, r2) := by first | (rw [hji10] at H; exact H) | (simp only [hji10] at H ⊢; exact H)
                have hji10w : (IntKind.i64.wrap (((rdOf ByteArray.empty t208 x16_1).size : Int) - 1)) = ji10 := (i64_w _).trans hji10
                by_cases c11 : 0 ≤ (ji10)
                · rw [if_pos c11] at H
                  have c11b0 := eq_true c11
                  have c11b1 : decide (0 ≤ (ji10)) = true := decide_eq_true c11
                  clear c11
                  by_cases c12 : (ji10) ≤ ((rdOf ByteArray.empty t208 x16_1).size : Int)
                  · rw [if_pos c12] at H
                    have c12b0 := eq_true c12
                    have c12b1 : decide ((ji10) ≤ ((rdOf ByteArray.empty t208 x16_1).size : Int)) = true := decide_eq_true c12
                    clear c12
                    replace H := Option.bind_eq_some_iff.mp H
                    obtain ⟨⟨t213, t214⟩, A130, H⟩ := H
                    replace H : (if (ji10) < ((rdOf ByteArray.empty t208 x16_1).size : Int) then ((strings_IndexByte.f (⟨#[100, 115, 108]⟩ : ByteArray) (bt (rdOf ByteArray.empty t208 x16_1) (ji10))).bind fun t215 => (if t214 = true then (if t215 < 0 then (some (0, 5)) else ((impl_worth.f t215).bind fun t216 => (impl_ReadAmount.l0 k1 a0 (wrap64 (x4_1 + (wrap64 (t213 * t216)))) t208 (t208.length : Int) (wrap64 (x16_1 + 1))))) else (some (0, 5)))) else (none)) = some (r1, r2) := H
                    have A13 := Aside0.mk A130
                    clear A130
                    by_cases c14 : (ji10) < ((rdOf ByteArray.empty t208 x16_1).size : Int)
                    · rw [if_pos c14] at H
                      have c14b0 : decide ((ji10) < ((rdOf ByteArray.empty t208 x16_1).size : Int)) = true := decide_eq_true c14
                      clear c14
                      replace H := Option.bind_eq_some_iff.mp H
                      obtain ⟨t215, A160, H⟩ := H
                      replace H : (if t214 = true then (if t215 < 0 then (some (0, 5)) else ((impl_worth.f t215).bind fun t216 => (impl_ReadAmount.l0 k1 a0 (wrap64 (x4_1 + (wrap64 (t213 * t216)))) t208 (t208.length : Int) (wrap64 (x16_1 + 1))))) else (some (0, 5))) = some (r1, r2) := H
                      have A16 := Aside0.mk A160
                      clear A160
                      by_cases c17 : t214 = true
                      · subst c17
                        have H1 : (if t215 < 0 then (some (0, 5)) else ((impl_worth.f t215).bind fun t216 => (impl_ReadAmount.l0 k1 a0 (wrap64 (x4_1 + (wrap64 (t213 * t216)))) t208 (t208.length : Int) (wrap64 (x16_1 + 1))))) = some (r1, r2) := by rw [if_pos rfl] at H; exact H
                        clear H
                        have H := H1
                        clear H1
                        by_cases c18 : t215 < 0
                        · rw [if_pos c18] at H
                          have c18b0 : decide (t215 < 0) = true := decide_eq_true c18
                          clear c18
                          simp only [Option.some.injEq, Prod.mk.injEq] at H
                          obtain ⟨rfl, rfl⟩ := H
                          have p212 : 0 ≤ (x16_1 : Int) := of_decide_eq_true (by first | (with_reducible assumption) | assumption)
                          have q212 : x16_1 < (t208.length : Int) := of_decide_eq_true (by first | (with_reducible assumption) | assumption)
                          obtain ⟨ad212, e212, hx212_0⟩ := Kd.at_string (Kd.R_reads' HO_14.out).2.2 x16_1 p212 q212
                          cases e212
                          replace p212 := eq_true p212
                          replace q212 := eq_true q212
                          go_wp2_with (first | ((with_reducible refine gate_callee (f := 55) rfl ?_); refine goesL_ (some 28) rfl rfl Tryd.func55 (by kernel_rfl) rfl #[.string ((rdOf ByteArray.empty t208 x16_1).extract 0 ((ji10) : Int).toNat)] rfl (by (try simp only [List.map_toArray, List.map_cons, List.map_nil]); first | done | (simp only [hji10]; rfl) | (go_simp; done) | rfl | (simp only [List.length_drop, List.length_take]; rfl)) ?_; (with_reducible refine (impl_number.calls k1 ((rdOf ByteArray.empty t208 x16_1).extract 0 ((ji10) : Int).toNat) t213 true _ A13.out).mono ?_); rintro e w' ⟨rfl, ⟨nd, rfl⟩⟩; refine ⟨_, rfl, ?_⟩; have p15 : 0 ≤ ((ji10) : Int) := of_decide_eq_true (by first | (with_reducible assumption) | assumption); have q15 : (ji10) < ((rdOf ByteArray.empty t208 x16_1).size : Int) := of_decide_eq_true (by first | (with_reducible assumption) | assumption); have hx15 := bt_at (rdOf ByteArray.empty t208 x16_1) (ji10); replace p15 := eq_true p15; replace q15 := eq_true q15) | ((with_reducible refine gate_callee (f := 56) rfl ?_); refine goesL_ (some 36) rfl rfl Tryd.func56 (by kernel_rfl) rfl #[.string (⟨#[100, 115, 108]⟩ : ByteArray), .int .u8 (bt (rdOf ByteArray.empty t208 x16_1) (ji10))] rfl (by (try simp only [List.map_toArray, List.map_cons, List.map_nil]); first | done | (simp only [hji10]; rfl) | (go_simp; done) | rfl | (simp only [List.length_drop, List.length_take]; rfl)) ?_; (with_reducible refine (strings_IndexByte.calls (⟨#[100, 115, 108]⟩ : ByteArray) (bt (rdOf ByteArray.empty t208 x16_1) (ji10)) t215 _ A16.out).mono ?_); rintro e w19 ⟨rfl, hb⟩; refine ⟨_, rfl, ?_⟩; have n0_ := Aside0.mk (Kd.R_below (by (with_reducible repeat (first | apply Kd.R_alloc | apply Kd.R_drewN | apply Kd.R_drew)); exact HO_14.out) hb); have n1_ := Aside0.mk (below_step (by repeat (first | (with_reducible first | exact HB.out | apply below_alloc | apply pw_below_drewN | apply below_drew1) | exact HB.out)) hb); clear HO_14; clear HB; have HO_14 := n0_; have HB := n1_; clear n0_ n1_; (try clear hb); (try clear hb2); (try clear hk); (try clear hi)))
                          go_ret2
                          exact ⟨by first | rfl | (simp [errW_none, errW_some] <;> rfl) | (simp only [← hji10]; first | rfl | (simp [errW_none, errW_some] <;> rfl)) | (simp [*, errW_none, errW_some] <;> rfl), by repeat (first | (with_reducible first | exact HB.out | apply below_alloc | apply pw_below_drewN | apply below_drew1) | exact HB.out)⟩
                        · rw [if_neg c18] at H
                          have c18b0 : decide (t215 < 0) = false := decide_eq_false c18
                          clear c18
                          replace H := Option.bind_eq_some_iff.mp H
                          obtain ⟨t216, A200, H⟩ := H
                          replace H : (impl_ReadAmount.l0 k1 a0 (wrap64 (x4_1 + (wrap64 (t213 * t216)))) t208 (t208.length : Int) (wrap64 (x16_1 + 1))) = some (r1, r2) := H
                          have A20 := Aside0.mk A200
                          clear A200
                          have H' := Aside0.mk H
                          clear H
                          have p212 : 0 ≤ (x16_1 : Int) := of_decide_eq_true (by first | (with_reducible assumption) | assumption)
                          have q212 : x16_1 < (t208.length : Int) := of_decide_eq_true (by first | (with_reducible assumption) | assumption)
                          obtain ⟨ad212, e212, hx212_0⟩ := Kd.at_string (Kd.R_reads' HO_14.out).2.2 x16_1 p212 q212
                          cases e212
                          replace p212 := eq_true p212
                          replace q212 := eq_true q212
                          go_wp2_with (first | ((with_reducible refine gate_callee (f := 55) rfl ?_); refine goesL_ (some 28) rfl rfl Tryd.func55 (by kernel_rfl) rfl #[.string ((rdOf ByteArray.empty t208 x16_1).extract 0 ((ji10) : Int).toNat)] rfl (by (try simp only [List.map_toArray, List.map_cons, List.map_nil]); first | done | (simp only [hji10]; rfl) | (go_simp; done) | rfl | (simp only [List.length_drop, List.length_take]; rfl)) ?_; (with_reducible refine (impl_number.calls k1 ((rdOf ByteArray.empty t208 x16_1).extract 0 ((ji10) : Int).toNat) t213 true _ A13.out).mono ?_); rintro e w' ⟨rfl, ⟨nd, rfl⟩⟩; refine ⟨_, rfl, ?_⟩; have p15 : 0 ≤ ((ji10) : Int) := of_decide_eq_true (by first | (with_reducible assumption) | assumption); have q15 : (ji10) < ((rdOf ByteArray.empty t208 x16_1).size : Int) := of_decide_eq_true (by first | (with_reducible assumption) | assumption); have hx15 := bt_at (rdOf ByteArray.empty t208 x16_1) (ji10); replace p15 := eq_true p15; replace q15 := eq_true q15) | ((with_reducible refine gate_callee (f := 56) rfl ?_); refine goesL_ (some 36) rfl rfl Tryd.func56 (by kernel_rfl) rfl #[.string (⟨#[100, 115, 108]⟩ : ByteArray), .int .u8 (bt (rdOf ByteArray.empty t208 x16_1) (ji10))] rfl (by (try simp only [List.map_toArray, List.map_cons, List.map_nil]); first | done | (simp only [hji10]; rfl) | (go_simp; done) | rfl | (simp only [List.length_drop, List.length_take]; rfl)) ?_; (with_reducible refine (strings_IndexByte.calls (⟨#[100, 115, 108]⟩ : ByteArray) (bt (rdOf ByteArray.empty t208 x16_1) (ji10)) t215 _ A16.out).mono ?_); rintro e w21 ⟨rfl, hb⟩; refine ⟨_, rfl, ?_⟩; have n0_ := Aside0.mk (Kd.R_below (by (with_reducible repeat (first | apply Kd.R_alloc | apply Kd.R_drewN | apply Kd.R_drew)); exact HO_14.out) hb); have n1_ := Aside0.mk (below_step (by repeat (first | (with_reducible first | exact HB.out | apply below_alloc | apply pw_below_drewN | apply below_drew1) | exact HB.out)) hb); clear HO_14; clear HB; have HO_14 := n0_; have HB := n1_; clear n0_ n1_; (try clear hb); (try clear hb2); (try clear hk); (try clear hi)) | ((with_reducible refine gate_callee (f := 57) rfl ?_); refine goesL_ (some 46) rfl rfl Tryd.func57 (by kernel_rfl) rfl #[.int .i64 t215] rfl (by (try simp only [List.map_toArray, List.map_cons, List.map_nil]); first | done | (go_simp; done) | rfl | (simp only [List.length_drop, List.length_take]; rfl)) ?_; (with_reducible refine (impl_worth.calls t215 t216 _ A20.out).mono ?_); rintro e w22 ⟨rfl, hb⟩; refine ⟨_, rfl, ?_⟩; have n0_ := Aside0.mk (Kd.R_below (by (with_reducible repeat (first | apply Kd.R_alloc | apply Kd.R_drewN | apply Kd.R_drew)); exact HO_14.out) hb); have n1_ := Aside0.mk (below_step (by repeat (first | (with_reducible first | exact HB.out | apply below_alloc | apply pw_below_drewN | apply below_drew1) | exact HB.out)) hb); clear HO_14; clear HB; have HO_14 := n0_; have HB := n1_; clear n0_ n1_; (try clear hb); (try clear hb2); (try clear hk); (try clear hi)))
                          go_roundg k1
                          case measure => have := HK1.out; omega
                          case rel => exact ⟨(wrap64 (x4_1 + (wrap64 (t213 * t216)))), (wrap64 (x16_1 + 1)), (by first | rfl | (simp; done) | (simp [*]; done)), (by first | rfl | (simp; done) | (simp [*]; done)), H', ⟨by have := HK1.out; omega⟩, ⟨by (with_reducible repeat (first | apply Kd.R_alloc | apply Kd.R_drewN | apply Kd.R_drew)); exact HO_14.out⟩, ⟨by repeat (first | (with_reducible first | exact HB.out | apply below_alloc | apply pw_below_drewN | apply below_drew1) | exact HB.out)⟩⟩
                      · replace c17 := Bool.eq_false_iff.mpr c17
                        subst c17
                        have H1 : (some (0, 5)) = some (r1, r2) := by rw [if_neg (show ¬ (false = true) by decide)] at H; exact H
                        clear H
                        have H := H1
                        clear H1
                        simp only [Option.some.injEq, Prod.mk.injEq] at H
                        obtain ⟨rfl, rfl⟩ := H
                        have p212 : 0 ≤ (x16_1 : Int) := of_decide_eq_true (by first | (with_reducible assumption) | assumption)
                        have q212 : x16_1 < (t208.length : Int) := of_decide_eq_true (by first | (with_reducible assumption) | assumption)
                        obtain ⟨ad212, e212, hx212_0⟩ := Kd.at_string (Kd.R_reads' HO_14.out).2.2 x16_1 p212 q212
                        cases e212
                        replace p212 := eq_true p212
                        replace q212 := eq_true q212
                        go_wp2_with (first | ((with_reducible refine gate_callee (f := 55) rfl ?_); refine goesL_ (some 28) rfl rfl Tryd.func55 (by kernel_rfl) rfl #[.string ((rdOf ByteArray.empty t208 x16_1).extract 0 ((ji10) : Int).toNat)] rfl (by (try simp only [List.map_toArray, List.map_cons, List.map_nil]); first | done | (simp only [hji10]; rfl) | (go_simp; done) | rfl | (simp only [List.length_drop, List.length_take]; rfl)) ?_; (with_reducible refine (impl_number.calls k1 ((rdOf ByteArray.empty t208 x16_1).extract 0 ((ji10) : Int).toNat) t213 false _ A13.out).mono ?_); rintro e w' ⟨rfl, ⟨nd, rfl⟩⟩; refine ⟨_, rfl, ?_⟩; have p15 : 0 ≤ ((ji10) : Int) := of_decide_eq_true (by first | (with_reducible assumption) | assumption); have q15 : (ji10) < ((rdOf ByteArray.empty t208 x16_1).size : Int) := of_decide_eq_true (by first | (with_reducible assumption) | assumption); have hx15 := bt_at (rdOf ByteArray.empty t208 x16_1) (ji10); replace p15 := eq_true p15; replace q15 := eq_true q15) | ((with_reducible refine gate_callee (f := 56) rfl ?_); refine goesL_ (some 36) rfl rfl Tryd.func56 (by kernel_rfl) rfl #[.string (⟨#[100, 115, 108]⟩ : ByteArray), .int .u8 (bt (rdOf ByteArray.empty t208 x16_1) (ji10))] rfl (by (try simp only [List.map_toArray, List.map_cons, List.map_nil]); first | done | (simp only [hji10]; rfl) | (go_simp; done) | rfl | (simp only [List.length_drop, List.length_take]; rfl)) ?_; (with_reducible refine (strings_IndexByte.calls (⟨#[100, 115, 108]⟩ : ByteArray) (bt (rdOf ByteArray.empty t208 x16_1) (ji10)) t215 _ A16.out).mono ?_); rintro e w23 ⟨rfl, hb⟩; refine ⟨_, rfl, ?_⟩; have n0_ := Aside0.mk (Kd.R_below (by (with_reducible repeat (first | apply Kd.R_alloc | apply Kd.R_drewN | apply Kd.R_drew)); exact HO_14.out) hb); have n1_ := Aside0.mk (below_step (by repeat (first | (with_reducible first | exact HB.out | apply below_alloc | apply pw_below_drewN | apply below_drew1) | exact HB.out)) hb); clear HO_14; clear HB; have HO_14 := n0_; have HB := n1_; clear n0_ n1_; (try clear hb); (try clear hb2); (try clear hk); (try clear hi)))
                        go_ret2
                        exact ⟨by first | rfl | (simp [errW_none, errW_some] <;> rfl) | (simp only [← hji10]; first | rfl | (simp [errW_none, errW_some] <;> rfl)) | (simp [*, errW_none, errW_some] <;> rfl), by repeat (first | (with_reducible first | exact HB.out | apply below_alloc | apply pw_below_drewN | apply below_drew1) | exact HB.out)⟩
                    · rw [if_neg c14] at H
                      exact absurd H (by simp)
                  · rw [if_neg c12] at H
                    exact absurd H (by simp)
                · rw [if_neg c11] at H
                  exact absurd H (by simp)
            · rw [if_neg c8] at H
              exact absurd H (by simp)
          · rw [if_neg c7] at H
            exact absurd H (by simp)
        · rw [if_neg c6] at H
          have c6b0 : decide (x16_1 < (t208.length : Int)) = false := decide_eq_false c6
          clear c6
          replace H := Option.bind_eq_some_iff.mp H
          obtain ⟨t211, A240, H⟩ := H
          replace H : (if t211.toList = a0.toList then (some (x4_1, 0)) else (some (0, 5))) = some (r1, r2) := H
          have A24 := Aside0.mk A240
          clear A240
          by_cases c25 : t211.toList = a0.toList
          · rw [if_pos c25] at H
            have c25b0 : (t211.toList == a0.toList) = true := beq_iff_eq.mpr c25
            have c25b1 : (t211.toList != a0.toList) = false := bne_eq_false_iff_eq.mpr c25
            clear c25
            simp only [Option.some.injEq, Prod.mk.injEq] at H
            obtain ⟨rfl, rfl⟩ := H
            go_wp2_with (first | ((with_reducible refine gate_callee (f := 32) rfl ?_); refine goesL_ (some 51) rfl rfl Tryd.func32 (by kernel_rfl) rfl #[.int .i64 x4_1] rfl (by (try simp only [List.map_toArray, List.map_cons, List.map_nil]); first | done | (go_simp; done) | rfl | (simp only [List.length_drop, List.length_take]; rfl)) ?_; (with_reducible refine (impl_AmountText.calls k1 x4_1 t211 _ ?side1 A24.out).mono ?_); (case side1 => first | exact hT | exact Tt.TT_on hT (by repeat (first | (with_reducible first | exact HB.out | apply below_alloc | apply pw_below_drewN | apply below_drew1) | exact HB.out))); rintro e w26 ⟨rfl, hb⟩; refine ⟨_, rfl, ?_⟩; have n0_ := Aside0.mk (Kd.R_below (by (with_reducible repeat (first | apply Kd.R_alloc | apply Kd.R_drewN | apply Kd.R_drew)); exact HO_14.out) hb); have n1_ := Aside0.mk (below_step (by repeat (first | (with_reducible first | exact HB.out | apply below_alloc | apply pw_below_drewN | apply below_drew1) | exact HB.out)) hb); clear HO_14; clear HB; have HO_14 := n0_; have HB := n1_; clear n0_ n1_; (try clear hb); (try clear hb2); (try clear hk); (try clear hi)))
            go_ret2
            exact ⟨by first | rfl | (simp [errW_none, errW_some] <;> rfl) | (simp [*, errW_none, errW_some] <;> rfl), by repeat (first | (with_reducible first | exact HB.out | apply below_alloc | apply pw_below_drewN | apply below_drew1) | exact HB.out)⟩
          · rw [if_neg c25] at H
            have c25b0 : (t211.toList == a0.toList) = false := beq_eq_false_iff_ne.mpr c25
            have c25b1 : (t211.toList != a0.toList) = true := bne_iff_ne.mpr c25
            simp only [Option.some.injEq, Prod.mk.injEq] at H
            obtain ⟨rfl, rfl⟩ := H
            go_wp2_with (first | ((with_reducible refine gate_callee (f := 32) rfl ?_); refine goesL_ (some 51) rfl rfl Tryd.func32 (by kernel_rfl) rfl #[.int .i64 x4_1] rfl (by (try simp only [List.map_toArray, List.map_cons, List.map_nil]); first | done | (go_simp; done) | rfl | (simp only [List.length_drop, List.length_take]; rfl)) ?_; (with_reducible refine (impl_AmountText.calls k1 x4_1 t211 _ ?side1 A24.out).mono ?_); (case side1 => first | exact hT | exact Tt.TT_on hT (by repeat (first | (with_reducible first | exact HB.out | apply below_alloc | apply pw_below_drewN | apply below_drew1) | exact HB.out))); rintro e w27 ⟨rfl, hb⟩; refine ⟨_, rfl, ?_⟩; have n0_ := Aside0.mk (Kd.R_below (by (with_reducible repeat (first | apply Kd.R_alloc | apply Kd.R_drewN | apply Kd.R_drew)); exact HO_14.out) hb); have n1_ := Aside0.mk (below_step (by repeat (first | (with_reducible first | exact HB.out | apply below_alloc | apply pw_below_drewN | apply below_drew1) | exact HB.out)) hb); clear HO_14; clear HB; have HO_14 := n0_; have HB := n1_; clear n0_ n1_; (try clear hb); (try clear hb2); (try clear hk); (try clear hi)))
            go_ret2
            exact ⟨by first | rfl | (simp [errW_none, errW_some] <;> rfl) | (simp [*, errW_none, errW_some] <;> rfl), by repeat (first | (with_reducible first | exact HB.out | apply below_alloc | apply pw_below_drewN | apply below_drew1) | exact HB.out)⟩

/-! ### impl_ValidDebts: function 50 -/
mutual
def impl_ValidDebts.j0 : Nat → Int → List (S77) → Bool → Option (Bool)
  | 0, _, _, _ => none
  | k + 1, x0, x1, x17 => if x17 = true then (some false) else (impl_ValidDebts.l0 k x0 x1 (x1.length : Int) 0)
def impl_ValidDebts.l0 : Nat → Int → List (S77) → Int → Int → Option (Bool)
  | 0, _, _, _, _ => none
  | k + 1, x0, x18, x19, x20 => if x20 < x19 then (if 0 ≤ x20 then (if x20 < (x18.length : Int) then (if ((rd_T77 x18 x20).f0) < 0 then (some false) else (if ((rd_T77 x18 x20).f0) ≥ x0 then (some false) else (if ((rd_T77 x18 x20).f1) < 0 then (some false) else (if ((rd_T77 x18 x20).f1) ≥ x0 then (some false) else (if ((rd_T77 x18 x20).f0) = ((rd_T77 x18 x20).f1) then (some false) else (if ((rd_T77 x18 x20).f2) < 1 then (some false) else (if ((rd_T77 x18 x20).f2) > 100000000 then (some false) else (impl_ValidDebts.l0 k x0 x18 x19 (wrap64 (x20 + 1)))))))))) else (none)) else (none)) else (some true)
end
def impl_ValidDebts.f (k : Nat) (a0 : Int) (l1 : List (S77)) : Option (Bool) := if a0 < 1 then (impl_ValidDebts.j0 k a0 l1 true) else (if a0 > 16 then (impl_ValidDebts.j0 k a0 l1 true) else (impl_ValidDebts.j0 k a0 l1 (decide ((l1.length : Int) > 60))))
theorem impl_ValidDebts.mono_l : ∀ k, (∀ y0 y1 y2, LeO (impl_ValidDebts.j0 k y0 y1 y2) (impl_ValidDebts.j0 (k + 1) y0 y1 y2)) ∧ (∀ y0 y1 y2 y3, LeO (impl_ValidDebts.l0 k y0 y1 y2 y3) (impl_ValidDebts.l0 (k + 1) y0 y1 y2 y3))
  | 0 => ⟨fun _ _ _ r h => by simp [impl_ValidDebts.j0] at h, fun _ _ _ _ r h => by simp [impl_ValidDebts.l0] at h⟩
  | k + 1 => by
    obtain ⟨ih0, ih1⟩ := impl_ValidDebts.mono_l k
    refine ⟨?_, ?_⟩
    · intro y0 y1 y2
      unfold impl_ValidDebts.j0
      repeat' first
      | (with_reducible exact ih0 _ _ _)
      | (with_reducible exact ih1 _ _ _ _)
      | (with_reducible exact LeO.refl _)
      | (with_reducible exact LeO.none _)
      | (with_reducible refine LeO.ite ?_ ?_)
      | (with_reducible refine LeO.bind ?_ (fun _ => ?_))
      | exact ih0 _ _ _
      | exact ih1 _ _ _ _
      | exact LeO.none _
      | refine LeO.ite ?_ ?_
      | refine LeO.bind ?_ (fun _ => ?_)
    · intro y0 y1 y2 y3
      unfold impl_ValidDebts.l0
      repeat' first
      | (with_reducible exact ih0 _ _ _)
      | (with_reducible exact ih1 _ _ _ _)
      | (with_reducible exact LeO.refl _)
      | (with_reducible exact LeO.none _)
      | (with_reducible refine LeO.ite ?_ ?_)
      | (with_reducible refine LeO.bind ?_ (fun _ => ?_))
      | exact ih0 _ _ _
      | exact ih1 _ _ _ _
      | exact LeO.none _
      | refine LeO.ite ?_ ?_
      | refine LeO.bind ?_ (fun _ => ?_)
theorem impl_ValidDebts.mono : ∀ a0 a1 k, LeO (impl_ValidDebts.f k a0 a1) (impl_ValidDebts.f (k + 1) a0 a1) := by
  intro a0 a1 k
  obtain ⟨ih0, ih1⟩ := impl_ValidDebts.mono_l k
  unfold impl_ValidDebts.f
  repeat' first
      | (with_reducible exact ih0 _ _ _)
      | (with_reducible exact ih1 _ _ _ _)
      | (with_reducible exact LeO.refl _)
      | (with_reducible exact LeO.none _)
      | (with_reducible refine LeO.ite ?_ ?_)
      | (with_reducible refine LeO.bind ?_ (fun _ => ?_))
      | exact ih0 _ _ _
      | exact ih1 _ _ _ _
      | exact LeO.none _
      | refine LeO.ite ?_ ?_
      | refine LeO.bind ?_ (fun _ => ?_)
set_option maxHeartbeats 8000000 in
set_option maxRecDepth 100000 in
theorem impl_ValidDebts.calls (k : Nat) (a0 : Int) (A1 : Option Addr) (c1 : Nat) (l1 : List (S77)) (r : Bool) (w : World) (hr1 : Kd.C k77 w A1 l1.length l1) (hc1 : l1.length ≤ c1) (h : impl_ValidDebts.f k a0 l1 = some r) :
    Calls Tryd.prog 50 #[.int .i64 a0, .slice A1 l1.length c1] w fun e w' => e = .returned (.bool r) ∧ Below w.heap.size w w' := by
  have hu77 := Tryd.underlying77
  have HR1 := Aside0.mk hr1
  have HC1 := Aside0.mk hc1
  clear hr1 hc1
  have HB := Aside0.mk (Below.refl w.heap.size w)
  have H : (if a0 < 1 then (impl_ValidDebts.j0 k a0 l1 true) else (if a0 > 16 then (impl_ValidDebts.j0 k a0 l1 true) else (impl_ValidDebts.j0 k a0 l1 (decide ((l1.length : Int) > 60))))) = some r := h
  clear h
  have HC3 := Aside0.mk H
  clear H
  go_enter Tryd.func50, Tryd.ntmps50
  go_upto_region 1 with (fail)
  go_cut [17] (fun v17 wc => ∃ (kq : Nat) (x17_2 : Bool), v17 = .bool x17_2 ∧ Aside0 (impl_ValidDebts.j0 kq a0 l1 x17_2 = some r) ∧ Aside0 (kq ≤ k) ∧ Aside0 (Below w.heap.size w wc))
  case first =>
    have H := HC3.out
    clear HC3
    by_cases c4 : a0 < 1
    · rw [if_pos c4] at H
      have c4b0 : decide (a0 < 1) = true := decide_eq_true c4
      clear c4
      (first | rw [c4b0] | (simp only [i64_w, i32_w]; rw [c4b0]) | skip)
      have H' := Aside0.mk H
      clear H
      go_wp2
      go_meet
      case rel => exact ⟨_, (true), (by first | rfl | (simp; done) | (simp [*]; done)), H', ⟨by first | omega | exact Nat.le_refl _⟩, ⟨by repeat (first | (with_reducible first | exact HB.out | apply below_alloc | apply pw_below_drewN | apply below_drew1) | exact HB.out)⟩⟩
    · rw [if_neg c4] at H
      have c4b0 : decide (a0 < 1) = false := decide_eq_false c4
      clear c4
      (first | rw [c4b0] | (simp only [i64_w, i32_w]; rw [c4b0]) | skip)
      by_cases c5 : a0 > 16
      · rw [if_pos c5] at H
        have c5b0 : decide (16 < a0) = true := decide_eq_true c5
        clear c5
        have H' := Aside0.mk H
        clear H
        go_wp2
        go_meet
        case rel => exact ⟨_, (true), (by first | rfl | (simp; done) | (simp [*]; done)), H', ⟨by first | omega | exact Nat.le_refl _⟩, ⟨by repeat (first | (with_reducible first | exact HB.out | apply below_alloc | apply pw_below_drewN | apply below_drew1) | exact HB.out)⟩⟩
      · rw [if_neg c5] at H
        have c5b0 : decide (16 < a0) = false := decide_eq_false c5
        clear c5
        have H' := Aside0.mk H
        clear H
        go_wp2
        go_meet
        case rel => exact ⟨_, (decide ((l1.length : Int) > 60)), (by first | rfl | (simp; done) | (simp [*]; done)), H', ⟨by first | omega | exact Nat.le_refl _⟩, ⟨by repeat (first | (with_reducible first | exact HB.out | apply below_alloc | apply pw_below_drewN | apply below_drew1) | exact HB.out)⟩⟩
  case rest =>
    clear HC3
    try clear c1
    try clear p2
    try clear c4
    try clear c4b0
    try clear c5
    try clear c5b0
    obtain ⟨kq, x17_2, rfl, HA, HJ2, HB⟩ := hcut
    cases kq with
    | zero => exact absurd HA.out (by simp [impl_ValidDebts.j0])
    | succ kj2 =>
      have H := HA.out
      clear HA
      simp only [impl_ValidDebts.j0] at H
      by_cases c6 : x17_2 = true
      · subst c6
        have H1 : (some false) = some r := by rw [if_pos rfl] at H; exact H
        clear H
        have H := H1
        clear H1
        obtain rfl := Option.some.inj H
        go_wp2
        go_ret
        exact ⟨by first | rfl | (simp [errW_none, errW_some] <;> rfl) | (simp [*, errW_none, errW_some] <;> rfl), by repeat (first | (with_reducible first | exact HB.out | apply below_alloc | apply pw_below_drewN | apply below_drew1) | exact HB.out)⟩
      · replace c6 := Bool.eq_false_iff.mpr c6
        subst c6
        have H1 : (impl_ValidDebts.l0 kj2 a0 l1 (l1.length : Int) 0) = some r := by rw [if_neg (show ¬ (false = true) by decide)] at H; exact H
        clear H
        have H := H1
        clear H1
        have H' := Aside0.mk H
        clear H
        go_wp2
        go_loopg [20] kj2 (fun kq v20 w' => ∃ (x20_2 : Int), v20 = .int .i64 x20_2 ∧ Aside0 (impl_ValidDebts.l0 kq a0 l1 (l1.length : Int) x20_2 = some r) ∧ Aside0 (kq ≤ kj2) ∧ Aside0 (Below w.heap.size w w'))
        case atStart => exact ⟨(0), (by first | rfl | (simp; done) | (simp [*]; done)), H', ⟨Nat.le_refl _⟩, ⟨by repeat (first | (with_reducible first | exact HB.out | apply below_alloc | apply pw_below_drewN | apply below_drew1) | exact HB.out)⟩⟩
        case round =>
          clear H'
          try clear c1
          try clear p2
          try clear c4
          try clear c4b0
          try clear c5
          try clear c5b0
          try clear c6
          try clear p2
          obtain ⟨x20_2, rfl, HA, HK2, HB⟩ := hrel
          cases gk with
          | zero => exact absurd HA.out (by simp [impl_ValidDebts.l0])
          | succ k2 =>
            have H := HA.out
            clear HA
            simp only [impl_ValidDebts.l0] at H
            by_cases c7 : x20_2 < (l1.length : Int)
            · rw [if_pos c7] at H
              have c7b0 : decide (x20_2 < (l1.length : Int)) = true := decide_eq_true c7
              clear c7
              by_cases c8 : 0 ≤ x20_2
              · rw [if_pos c8] at H
                have c8b0 : decide (0 ≤ x20_2) = true := decide_eq_true c8
                clear c8
                by_cases c9 : x20_2 < (l1.length : Int)
                · rw [if_pos c9] at H
                  have c9b0 : decide (x20_2 < (l1.length : Int)) = true := decide_eq_true c9
                  clear c9
                  by_cases c10 : ((rd_T77 l1 x20_2).f0) < 0
                  · rw [if_pos c10] at H
                    have c10b0 : decide (((rd_T77 l1 x20_2).f0) < 0) = true := decide_eq_true c10
                    clear c10
                    obtain rfl := Option.some.inj H
                    have p217 : 0 ≤ (x20_2 : Int) := of_decide_eq_true (by first | (with_reducible assumption) | assumption)
                    have q217 : x20_2 < (l1.length : Int) := of_decide_eq_true (by first | (with_reducible assumption) | assumption)
                    obtain ⟨ad217, e217, hx217_0, hx217_1, hx217_2⟩ := at_T77 HR1.out x20_2 p217 q217
                    cases e217
                    replace hx217_0 := (HB.out.cell (World.block_lt_of_cell? w _ hx217_0)).trans hx217_0
                    replace hx217_1 := (HB.out.cell (World.block_lt_of_cell? w _ hx217_1)).trans hx217_1
                    replace hx217_2 := (HB.out.cell (World.block_lt_of_cell? w _ hx217_2)).trans hx217_2
                    replace p217 := eq_true p217
                    replace q217 := eq_true q217
                    go_wp2_with (first | ((with_reducible refine gate_dst (N := 6) rfl ?_); (try (refine gate_guard (by rfl) ?_; dsimp only)); refine box_event ?hg (N := 6) ?hd (cs := #[.int .i64 0, .int .i64 0, .int .i64 0]) (t := 77) ?hr ?_; (case hd => rfl); (case hg => rfl); (case hr => first | (go_simp; done) | (go_simp; rfl)); intro gb218 hg w11 hbox hb; have n0_ := Aside0.mk (below_step (by repeat (first | (with_reducible first | exact HB.out | apply below_alloc | apply pw_below_drewN | apply below_drew1) | exact HB.out)) hb); have n1_ := Aside0.mk (hbox); have n2_ := Aside0.mk ((by rw [hg]; exact (below_size (by repeat (first | (with_reducible first | exact HB.out | apply below_alloc | apply pw_below_drewN | apply below_drew1) | exact HB.out))) : w.heap.size ≤ gb218)); have n3_ := Aside0.mk ((by rw [hg]; exact (below_size (by repeat (first | (with_reducible first | exact HB.out | apply below_alloc | apply pw_below_drewN | apply below_drew1) | exact HB.out))) : w.heap.size ≤ gb218)); clear HB; have HB := n0_; have BK218 := n1_; have GW218 := n2_; have GE218 := n3_; clear n0_ n1_ n2_ n3_; clear hb hbox hg; have hcz12_0 : w11.cell? ⟨gb218, 0, none⟩ = some (.int .i64 0) := (blk_cell BK218.out 0).trans rfl; have hcz12_1 : w11.cell? ⟨gb218, 1, none⟩ = some (.int .i64 0) := (blk_cell BK218.out 1).trans rfl; have hcz12_2 : w11.cell? ⟨gb218, 2, none⟩ = some (.int .i64 0) := (blk_cell BK218.out 2).trans rfl; have hfz12_0 := blk_frozen BK218.out 0; have hfz12_1 := blk_frozen BK218.out 1; have hfz12_2 := blk_frozen BK218.out 2))
                    go_ret
                    exact ⟨by first | rfl | (simp [errW_none, errW_some] <;> rfl) | (simp [*, errW_none, errW_some] <;> rfl), by repeat (first | (with_reducible first | exact HB.out | apply below_alloc | apply pw_below_drewN | apply below_drew1 | refine below_set ?_ GE218.out) | exact HB.out)⟩
                  · rw [if_neg c10] at H
                    have c10b0 : decide (((rd_T77 l1 x20_2).f0) < 0) = false := decide_eq_false c10
                    clear c10
                    by_cases c13 : ((rd_T77 l1 x20_2).f0) ≥ a0
                    · rw [if_pos c13] at H
                      have c13b0 : decide (a0 ≤ ((rd_T77 l1 x20_2).f0)) = true := decide_eq_true c13
                      clear c13
                      obtain rfl := Option.some.inj H
                      have p217 : 0 ≤ (x20_2 : Int) := of_decide_eq_true (by first | (with_reducible assumption) | assumption)
                      have q217 : x20_2 < (l1.length : Int) := of_decide_eq_true (by first | (with_reducible assumption) | assumption)
                      obtain ⟨ad217, e217, hx217_0, hx217_1, hx217_2⟩ := at_T77 HR1.out x20_2 p217 q217
                      cases e217
                      replace hx217_0 := (HB.out.cell (World.block_lt_of_cell? w _ hx217_0)).trans hx217_0
                      replace hx217_1 := (HB.out.cell (World.block_lt_of_cell? w _ hx217_1)).trans hx217_1
                      replace hx217_2 := (HB.out.cell (World.block_lt_of_cell? w _ hx217_2)).trans hx217_2
                      replace p217 := eq_true p217
                      replace q217 := eq_true q217
                      go_wp2_with (first | ((with_reducible refine gate_dst (N := 6) rfl ?_); (try (refine gate_guard (by rfl) ?_; dsimp only)); refine box_event ?hg (N := 6) ?hd (cs := #[.int .i64 0, .int .i64 0, .int .i64 0]) (t := 77) ?hr ?_; (case hd => rfl); (case hg => rfl); (case hr => first | (go_simp; done) | (go_simp; rfl)); intro gb218 hg w14 hbox hb; have n0_ := Aside0.mk (below_step (by repeat (first | (with_reducible first | exact HB.out | apply below_alloc | apply pw_below_drewN | apply below_drew1) | exact HB.out)) hb); have n1_ := Aside0.mk (hbox); have n2_ := Aside0.mk ((by rw [hg]; exact (below_size (by repeat (first | (with_reducible first | exact HB.out | apply below_alloc | apply pw_below_drewN | apply below_drew1) | exact HB.out))) : w.heap.size ≤ gb218)); have n3_ := Aside0.mk ((by rw [hg]; exact (below_size (by repeat (first | (with_reducible first | exact HB.out | apply below_alloc | apply pw_below_drewN | apply below_drew1) | exact HB.out))) : w.heap.size ≤ gb218)); clear HB; have HB := n0_; have BK218 := n1_; have GW218 := n2_; have GE218 := n3_; clear n0_ n1_ n2_ n3_; clear hb hbox hg; have hcz15_0 : w14.cell? ⟨gb218, 0, none⟩ = some (.int .i64 0) := (blk_cell BK218.out 0).trans rfl; have hcz15_1 : w14.cell? ⟨gb218, 1, none⟩ = some (.int .i64 0) := (blk_cell BK218.out 1).trans rfl; have hcz15_2 : w14.cell? ⟨gb218, 2, none⟩ = some (.int .i64 0) := (blk_cell BK218.out 2).trans rfl; have hfz15_0 := blk_frozen BK218.out 0; have hfz15_1 := blk_frozen BK218.out 1; have hfz15_2 := blk_frozen BK218.out 2))
                      go_ret
                      exact ⟨by first | rfl | (simp [errW_none, errW_some] <;> rfl) | (simp [*, errW_none, errW_some] <;> rfl), by repeat (first | (with_reducible first | exact HB.out | apply below_alloc | apply pw_below_drewN | apply below_drew1 | refine below_set ?_ GE218.out) | exact HB.out)⟩
                    · rw [if_neg c13] at H
                      have c13b0 : decide (a0 ≤ ((rd_T77 l1 x20_2).f0)) = false := decide_eq_false c13
                      clear c13
                      by_cases c16 : ((rd_T77 l1 x20_2).f1) < 0
                      · rw [if_pos c16] at H
                        have c16b0 : decide (((rd_T77 l1 x20_2).f1) < 0) = true := decide_eq_true c16
                        clear c16
                        obtain rfl := Option.some.inj H
                        have p217 : 0 ≤ (x20_2 : Int) := of_decide_eq_true (by first | (with_reducible assumption) | assumption)
                        have q217 : x20_2 < (l1.length : Int) := of_decide_eq_true (by first | (with_reducible assumption) | assumption)
                        obtain ⟨ad217, e217, hx217_0, hx217_1, hx217_2⟩ := at_T77 HR1.out x20_2 p217 q217
                        cases e217
                        replace hx217_0 := (HB.out.cell (World.block_lt_of_cell? w _ hx217_0)).trans hx217_0
                        replace hx217_1 := (HB.out.cell (World.block_lt_of_cell? w _ hx217_1)).trans hx217_1
                        replace hx217_2 := (HB.out.cell (World.block_lt_of_cell? w _ hx217_2)).trans hx217_2
                        replace p217 := eq_true p217
                        replace q217 := eq_true q217
                        go_wp2_with (first | ((with_reducible refine gate_dst (N := 6) rfl ?_); (try (refine gate_guard (by rfl) ?_; dsimp only)); refine box_event ?hg (N := 6) ?hd (cs := #[.int .i64 0, .int .i64 0, .int .i64 0]) (t := 77) ?hr ?_; (case hd => rfl); (case hg => rfl); (case hr => first | (go_simp; done) | (go_simp; rfl)); intro gb218 hg w17 hbox hb; have n0_ := Aside0.mk (below_step (by repeat (first | (with_reducible first | exact HB.out | apply below_alloc | apply pw_below_drewN | apply below_drew1) | exact HB.out)) hb); have n1_ := Aside0.mk (hbox); have n2_ := Aside0.mk ((by rw [hg]; exact (below_size (by repeat (first | (with_reducible first | exact HB.out | apply below_alloc | apply pw_below_drewN | apply below_drew1) | exact HB.out))) : w.heap.size ≤ gb218)); have n3_ := Aside0.mk ((by rw [hg]; exact (below_size (by repeat (first | (with_reducible first | exact HB.out | apply below_alloc | apply pw_below_drewN | apply below_drew1) | exact HB.out))) : w.heap.size ≤ gb218)); clear HB; have HB := n0_; have BK218 := n1_; have GW218 := n2_; have GE218 := n3_; clear n0_ n1_ n2_ n3_; clear hb hbox hg; have hcz18_0 : w17.cell? ⟨gb218, 0, none⟩ = some (.int .i64 0) := (blk_cell BK218.out 0).trans rfl; have hcz18_1 : w17.cell? ⟨gb218, 1, none⟩ = some (.int .i64 0) := (blk_cell BK218.out 1).trans rfl; have hcz18_2 : w17.cell? ⟨gb218, 2, none⟩ = some (.int .i64 0) := (blk_cell BK218.out 2).trans rfl; have hfz18_0 := blk_frozen BK218.out 0; have hfz18_1 := blk_frozen BK218.out 1; have hfz18_2 := blk_frozen BK218.out 2))
                        go_ret
                        exact ⟨by first | rfl | (simp [errW_none, errW_some] <;> rfl) | (simp [*, errW_none, errW_some] <;> rfl), by repeat (first | (with_reducible first | exact HB.out | apply below_alloc | apply pw_below_drewN | apply below_drew1 | refine below_set ?_ GE218.out) | exact HB.out)⟩
                      · rw [if_neg c16] at H
                        have c16b0 : decide (((rd_T77 l1 x20_2).f1) < 0) = false := decide_eq_false c16
                        clear c16
                        by_cases c19 : ((rd_T77 l1 x20_2).f1) ≥ a0
                        · rw [if_pos c19] at H
                          have c19b0 : decide (a0 ≤ ((rd_T77 l1 x20_2).f1)) = true := decide_eq_true c19
                          clear c19
                          obtain rfl := Option.some.inj H
                          have p217 : 0 ≤ (x20_2 : Int) := of_decide_eq_true (by first | (with_reducible assumption) | assumption)
                          have q217 : x20_2 < (l1.length : Int) := of_decide_eq_true (by first | (with_reducible assumption) | assumption)
                          obtain ⟨ad217, e217, hx217_0, hx217_1, hx217_2⟩ := at_T77 HR1.out x20_2 p217 q217
                          cases e217
                          replace hx217_0 := (HB.out.cell (World.block_lt_of_cell? w _ hx217_0)).trans hx217_0
                          replace hx217_1 := (HB.out.cell (World.block_lt_of_cell? w _ hx217_1)).trans hx217_1
                          replace hx217_2 := (HB.out.cell (World.block_lt_of_cell? w _ hx217_2)).trans hx217_2
                          replace p217 := eq_true p217
                          replace q217 := eq_true q217
                          go_wp2_with (first | ((with_reducible refine gate_dst (N := 6) rfl ?_); (try (refine gate_guard (by rfl) ?_; dsimp only)); refine box_event ?hg (N := 6) ?hd (cs := #[.int .i64 0, .int .i64 0, .int .i64 0]) (t := 77) ?hr ?_; (case hd => rfl); (case hg => rfl); (case hr => first | (go_simp; done) | (go_simp; rfl)); intro gb218 hg w20 hbox hb; have n0_ := Aside0.mk (below_step (by repeat (first | (with_reducible first | exact HB.out | apply below_alloc | apply pw_below_drewN | apply below_drew1) | exact HB.out)) hb); have n1_ := Aside0.mk (hbox); have n2_ := Aside0.mk ((by rw [hg]; exact (below_size (by repeat (first | (with_reducible first | exact HB.out | apply below_alloc | apply pw_below_drewN | apply below_drew1) | exact HB.out))) : w.heap.size ≤ gb218)); have n3_ := Aside0.mk ((by rw [hg]; exact (below_size (by repeat (first | (with_reducible first | exact HB.out | apply below_alloc | apply pw_below_drewN | apply below_drew1) | exact HB.out))) : w.heap.size ≤ gb218)); clear HB; have HB := n0_; have BK218 := n1_; have GW218 := n2_; have GE218 := n3_; clear n0_ n1_ n2_ n3_; clear hb hbox hg; have hcz21_0 : w20.cell? ⟨gb218, 0, none⟩ = some (.int .i64 0) := (blk_cell BK218.out 0).trans rfl; have hcz21_1 : w20.cell? ⟨gb218, 1, none⟩ = some (.int .i64 0) := (blk_cell BK218.out 1).trans rfl; have hcz21_2 : w20.cell? ⟨gb218, 2, none⟩ = some (.int .i64 0) := (blk_cell BK218.out 2).trans rfl; have hfz21_0 := blk_frozen BK218.out 0; have hfz21_1 := blk_frozen BK218.out 1; have hfz21_2 := blk_frozen BK218.out 2))
                          go_ret
                          exact ⟨by first | rfl | (simp [errW_none, errW_some] <;> rfl) | (simp [*, errW_none, errW_some] <;> rfl), by repeat (first | (with_reducible first | exact HB.out | apply below_alloc | apply pw_below_drewN | apply below_drew1 | refine below_set ?_ GE218.out) | exact HB.out)⟩
                        · rw [if_neg c19] at H
                          have c19b0 : decide (a0 ≤ ((rd_T77 l1 x20_2).f1)) = false := decide_eq_false c19
                          clear c19
                          by_cases c22 : ((rd_T77 l1 x20_2).f0) = ((rd_T77 l1 x20_2).f1)
                          · rw [if_pos c22] at H
                            have c22b0 : (((rd_T77 l1 x20_2).f0) == ((rd_T77 l1 x20_2).f1)) = true := beq_iff_eq.mpr c22
                            have c22b1 : (((rd_T77 l1 x20_2).f0) != ((rd_T77 l1 x20_2).f1)) = false := bne_eq_false_iff_eq.mpr c22
                            clear c22
                            obtain rfl := Option.some.inj H
                            have p217 : 0 ≤ (x20_2 : Int) := of_decide_eq_true (by first | (with_reducible assumption) | assumption)
                            have q217 : x20_2 < (l1.length : Int) := of_decide_eq_true (by first | (with_reducible assumption) | assumption)
                            obtain ⟨ad217, e217, hx217_0, hx217_1, hx217_2⟩ := at_T77 HR1.out x20_2 p217 q217
                            cases e217
                            replace hx217_0 := (HB.out.cell (World.block_lt_of_cell? w _ hx217_0)).trans hx217_0
                            replace hx217_1 := (HB.out.cell (World.block_lt_of_cell? w _ hx217_1)).trans hx217_1
                            replace hx217_2 := (HB.out.cell (World.block_lt_of_cell? w _ hx217_2)).trans hx217_2
                            replace p217 := eq_true p217
                            replace q217 := eq_true q217
                            go_wp2_with (first | ((with_reducible refine gate_dst (N := 6) rfl ?_); (try (refine gate_guard (by rfl) ?_; dsimp only)); refine box_event ?hg (N := 6) ?hd (cs := #[.int .i64 0, .int .i64 0, .int .i64 0]) (t := 77) ?hr ?_; (case hd => rfl); (case hg => rfl); (case hr => first | (go_simp; done) | (go_simp; rfl)); intro gb218 hg w23 hbox hb; have n0_ := Aside0.mk (below_step (by repeat (first | (with_reducible first | exact HB.out | apply below_alloc | apply pw_below_drewN | apply below_drew1) | exact HB.out)) hb); have n1_ := Aside0.mk (hbox); have n2_ := Aside0.mk ((by rw [hg]; exact (below_size (by repeat (first | (with_reducible first | exact HB.out | apply below_alloc | apply pw_below_drewN | apply below_drew1) | exact HB.out))) : w.heap.size ≤ gb218)); have n3_ := Aside0.mk ((by rw [hg]; exact (below_size (by repeat (first | (with_reducible first | exact HB.out | apply below_alloc | apply pw_below_drewN | apply below_drew1) | exact HB.out))) : w.heap.size ≤ gb218)); clear HB; have HB := n0_; have BK218 := n1_; have GW218 := n2_; have GE218 := n3_; clear n0_ n1_ n2_ n3_; clear hb hbox hg; have hcz24_0 : w23.cell? ⟨gb218, 0, none⟩ = some (.int .i64 0) := (blk_cell BK218.out 0).trans rfl; have hcz24_1 : w23.cell? ⟨gb218, 1, none⟩ = some (.int .i64 0) := (blk_cell BK218.out 1).trans rfl; have hcz24_2 : w23.cell? ⟨gb218, 2, none⟩ = some (.int .i64 0) := (blk_cell BK218.out 2).trans rfl; have hfz24_0 := blk_frozen BK218.out 0; have hfz24_1 := blk_frozen BK218.out 1; have hfz24_2 := blk_frozen BK218.out 2))
                            go_ret
                            exact ⟨by first | rfl | (simp [errW_none, errW_some] <;> rfl) | (simp [*, errW_none, errW_some] <;> rfl), by repeat (first | (with_reducible first | exact HB.out | apply below_alloc | apply pw_below_drewN | apply below_drew1 | refine below_set ?_ GE218.out) | exact HB.out)⟩
                          · rw [if_neg c22] at H
                            have c22b0 : (((rd_T77 l1 x20_2).f0) == ((rd_T77 l1 x20_2).f1)) = false := beq_eq_false_iff_ne.mpr c22
                            have c22b1 : (((rd_T77 l1 x20_2).f0) != ((rd_T77 l1 x20_2).f1)) = true := bne_iff_ne.mpr c22
                            by_cases c25 : ((rd_T77 l1 x20_2).f2) < 1
                            · rw [if_pos c25] at H
                              have c25b0 : decide (((rd_T77 l1 x20_2).f2) < 1) = true := decide_eq_true c25
                              clear c25
                              obtain rfl := Option.some.inj H
                              have p217 : 0 ≤ (x20_2 : Int) := of_decide_eq_true (by first | (with_reducible assumption) | assumption)
                              have q217 : x20_2 < (l1.length : Int) := of_decide_eq_true (by first | (with_reducible assumption) | assumption)
                              obtain ⟨ad217, e217, hx217_0, hx217_1, hx217_2⟩ := at_T77 HR1.out x20_2 p217 q217
                              cases e217
                              replace hx217_0 := (HB.out.cell (World.block_lt_of_cell? w _ hx217_0)).trans hx217_0
                              replace hx217_1 := (HB.out.cell (World.block_lt_of_cell? w _ hx217_1)).trans hx217_1
                              replace hx217_2 := (HB.out.cell (World.block_lt_of_cell? w _ hx217_2)).trans hx217_2
                              replace p217 := eq_true p217
                              replace q217 := eq_true q217
                              go_wp2_with (first | ((with_reducible refine gate_dst (N := 6) rfl ?_); (try (refine gate_guard (by rfl) ?_; dsimp only)); refine box_event ?hg (N := 6) ?hd (cs := #[.int .i64 0, .int .i64 0, .int .i64 0]) (t := 77) ?hr ?_; (case hd => rfl); (case hg => rfl); (case hr => first | (go_simp; done) | (go_simp; rfl)); intro gb218 hg w26 hbox hb; have n0_ := Aside0.mk (below_step (by repeat (first | (with_reducible first | exact HB.out | apply below_alloc | apply pw_below_drewN | apply below_drew1) | exact HB.out)) hb); have n1_ := Aside0.mk (hbox); have n2_ := Aside0.mk ((by rw [hg]; exact (below_size (by repeat (first | (with_reducible first | exact HB.out | apply below_alloc | apply pw_below_drewN | apply below_drew1) | exact HB.out))) : w.heap.size ≤ gb218)); have n3_ := Aside0.mk ((by rw [hg]; exact (below_size (by repeat (first | (with_reducible first | exact HB.out | apply below_alloc | apply pw_below_drewN | apply below_drew1) | exact HB.out))) : w.heap.size ≤ gb218)); clear HB; have HB := n0_; have BK218 := n1_; have GW218 := n2_; have GE218 := n3_; clear n0_ n1_ n2_ n3_; clear hb hbox hg; have hcz27_0 : w26.cell? ⟨gb218, 0, none⟩ = some (.int .i64 0) := (blk_cell BK218.out 0).trans rfl; have hcz27_1 : w26.cell? ⟨gb218, 1, none⟩ = some (.int .i64 0) := (blk_cell BK218.out 1).trans rfl; have hcz27_2 : w26.cell? ⟨gb218, 2, none⟩ = some (.int .i64 0) := (blk_cell BK218.out 2).trans rfl; have hfz27_0 := blk_frozen BK218.out 0; have hfz27_1 := blk_frozen BK218.out 1; have hfz27_2 := blk_frozen BK218.out 2))
                              go_ret
                              exact ⟨by first | rfl | (simp [errW_none, errW_some] <;> rfl) | (simp [*, errW_none, errW_some] <;> rfl), by repeat (first | (with_reducible first | exact HB.out | apply below_alloc | apply pw_below_drewN | apply below_drew1 | refine below_set ?_ GE218.out) | exact HB.out)⟩
                            · rw [if_neg c25] at H
                              have c25b0 : decide (((rd_T77 l1 x20_2).f2) < 1) = false := decide_eq_false c25
                              clear c25
                              by_cases c28 : ((rd_T77 l1 x20_2).f2) > 100000000
                              · rw [if_pos c28] at H
                                have c28b0 : decide (100000000 < ((rd_T77 l1 x20_2).f2)) = true := decide_eq_true c28
                                clear c28
                                obtain rfl := Option.some.inj H
                                have p217 : 0 ≤ (x20_2 : Int) := of_decide_eq_true (by first | (with_reducible assumption) | assumption)
                                have q217 : x20_2 < (l1.length : Int) := of_decide_eq_true (by first | (with_reducible assumption) | assumption)
                                obtain ⟨ad217, e217, hx217_0, hx217_1, hx217_2⟩ := at_T77 HR1.out x20_2 p217 q217
                                cases e217
                                replace hx217_0 := (HB.out.cell (World.block_lt_of_cell? w _ hx217_0)).trans hx217_0
                                replace hx217_1 := (HB.out.cell (World.block_lt_of_cell? w _ hx217_1)).trans hx217_1
                                replace hx217_2 := (HB.out.cell (World.block_lt_of_cell? w _ hx217_2)).trans hx217_2
                                replace p217 := eq_true p217
                                replace q217 := eq_true q217
                                go_wp2_with (first | ((with_reducible refine gate_dst (N := 6) rfl ?_); (try (refine gate_guard (by rfl) ?_; dsimp only)); refine box_event ?hg (N := 6) ?hd (cs := #[.int .i64 0, .int .i64 0, .int .i64 0]) (t := 77) ?hr ?_; (case hd => rfl); (case hg => rfl); (case hr => first | (go_simp; done) | (go_simp; rfl)); intro gb218 hg w29 hbox hb; have n0_ := Aside0.mk (below_step (by repeat (first | (with_reducible first | exact HB.out | apply below_alloc | apply pw_below_drewN | apply below_drew1) | exact HB.out)) hb); have n1_ := Aside0.mk (hbox); have n2_ := Aside0.mk ((by rw [hg]; exact (below_size (by repeat (first | (with_reducible first | exact HB.out | apply below_alloc | apply pw_below_drewN | apply below_drew1) | exact HB.out))) : w.heap.size ≤ gb218)); have n3_ := Aside0.mk ((by rw [hg]; exact (below_size (by repeat (first | (with_reducible first | exact HB.out | apply below_alloc | apply pw_below_drewN | apply below_drew1) | exact HB.out))) : w.heap.size ≤ gb218)); clear HB; have HB := n0_; have BK218 := n1_; have GW218 := n2_; have GE218 := n3_; clear n0_ n1_ n2_ n3_; clear hb hbox hg; have hcz30_0 : w29.cell? ⟨gb218, 0, none⟩ = some (.int .i64 0) := (blk_cell BK218.out 0).trans rfl; have hcz30_1 : w29.cell? ⟨gb218, 1, none⟩ = some (.int .i64 0) := (blk_cell BK218.out 1).trans rfl; have hcz30_2 : w29.cell? ⟨gb218, 2, none⟩ = some (.int .i64 0) := (blk_cell BK218.out 2).trans rfl; have hfz30_0 := blk_frozen BK218.out 0; have hfz30_1 := blk_frozen BK218.out 1; have hfz30_2 := blk_frozen BK218.out 2))
                                go_ret
                                exact ⟨by first | rfl | (simp [errW_none, errW_some] <;> rfl) | (simp [*, errW_none, errW_some] <;> rfl), by repeat (first | (with_reducible first | exact HB.out | apply below_alloc | apply pw_below_drewN | apply below_drew1 | refine below_set ?_ GE218.out) | exact HB.out)⟩
                              · rw [if_neg c28] at H
                                have c28b0 : decide (100000000 < ((rd_T77 l1 x20_2).f2)) = false := decide_eq_false c28
                                clear c28
                                have H' := Aside0.mk H
                                clear H
                                have p217 : 0 ≤ (x20_2 : Int) := of_decide_eq_true (by first | (with_reducible assumption) | assumption)
                                have q217 : x20_2 < (l1.length : Int) := of_decide_eq_true (by first | (with_reducible assumption) | assumption)
                                obtain ⟨ad217, e217, hx217_0, hx217_1, hx217_2⟩ := at_T77 HR1.out x20_2 p217 q217
                                cases e217
                                replace hx217_0 := (HB.out.cell (World.block_lt_of_cell? w _ hx217_0)).trans hx217_0
                                replace hx217_1 := (HB.out.cell (World.block_lt_of_cell? w _ hx217_1)).trans hx217_1
                                replace hx217_2 := (HB.out.cell (World.block_lt_of_cell? w _ hx217_2)).trans hx217_2
                                replace p217 := eq_true p217
                                replace q217 := eq_true q217
                                go_wp2_with (first | ((with_reducible refine gate_dst (N := 6) rfl ?_); (try (refine gate_guard (by rfl) ?_; dsimp only)); refine box_event ?hg (N := 6) ?hd (cs := #[.int .i64 0, .int .i64 0, .int .i64 0]) (t := 77) ?hr ?_; (case hd => rfl); (case hg => rfl); (case hr => first | (go_simp; done) | (go_simp; rfl)); intro gb218 hg w31 hbox hb; have n0_ := Aside0.mk (below_step (by repeat (first | (with_reducible first | exact HB.out | apply below_alloc | apply pw_below_drewN | apply below_drew1) | exact HB.out)) hb); have n1_ := Aside0.mk (hbox); have n2_ := Aside0.mk ((by rw [hg]; exact (below_size (by repeat (first | (with_reducible first | exact HB.out | apply below_alloc | apply pw_below_drewN | apply below_drew1) | exact HB.out))) : w.heap.size ≤ gb218)); have n3_ := Aside0.mk ((by rw [hg]; exact (below_size (by repeat (first | (with_reducible first | exact HB.out | apply below_alloc | apply pw_below_drewN | apply below_drew1) | exact HB.out))) : w.heap.size ≤ gb218)); clear HB; have HB := n0_; have BK218 := n1_; have GW218 := n2_; have GE218 := n3_; clear n0_ n1_ n2_ n3_; clear hb hbox hg; have hcz32_0 : w31.cell? ⟨gb218, 0, none⟩ = some (.int .i64 0) := (blk_cell BK218.out 0).trans rfl; have hcz32_1 : w31.cell? ⟨gb218, 1, none⟩ = some (.int .i64 0) := (blk_cell BK218.out 1).trans rfl; have hcz32_2 : w31.cell? ⟨gb218, 2, none⟩ = some (.int .i64 0) := (blk_cell BK218.out 2).trans rfl; have hfz32_0 := blk_frozen BK218.out 0; have hfz32_1 := blk_frozen BK218.out 1; have hfz32_2 := blk_frozen BK218.out 2))
                                go_roundg k2
                                case measure => have := HJ2.out; have := HK2.out; omega
                                case rel => exact ⟨(wrap64 (x20_2 + 1)), (by first | rfl | (simp; done) | (simp [*]; done)), H', ⟨by have := HJ2.out; have := HK2.out; omega⟩, ⟨by repeat (first | (with_reducible first | exact HB.out | apply below_alloc | apply pw_below_drewN | apply below_drew1 | refine below_set ?_ GE218.out) | exact HB.out)⟩⟩
                · rw [if_neg c9] at H
                  exact absurd H (by simp)
              · rw [if_neg c8] at H
                exact absurd H (by simp)
            · rw [if_neg c7] at H
              have c7b0 : decide (x20_2 < (l1.length : Int)) = false := decide_eq_false c7
              clear c7
              obtain rfl := Option.some.inj H
              go_wp2
              go_ret
              exact ⟨by first | rfl | (simp [errW_none, errW_some] <;> rfl) | (simp [*, errW_none, errW_some] <;> rfl), by repeat (first | (with_reducible first | exact HB.out | apply below_alloc | apply pw_below_drewN | apply below_drew1) | exact HB.out)⟩

/-! ### impl_linesOf: function 65 -/
def impl_linesOf.f (a0 : ByteArray) : Option (List ByteArray × Bool) := if a0.toList = ([] : List UInt8) then (some (([] : List ByteArray), true)) else ((strings_Split.f a0 (⟨#[10]⟩ : ByteArray)).bind fun t219 => (if 0 ≤ (wrap64 ((t219.length : Int) - 1)) then (if (wrap64 ((t219.length : Int) - 1)) < (t219.length : Int) then (if (wrap64 ((t219.length : Int) - 1)) ≤ (t219.length : Int) then (some ((t219.take ((wrap64 ((t219.length : Int) - 1)) : Int).toNat), ((rdOf ByteArray.empty t219 (wrap64 ((t219.length : Int) - 1))).toList == ([] : List UInt8)))) else (none)) else (none)) else (none)))
set_option maxHeartbeats 8000000 in
set_option maxRecDepth 100000 in
theorem impl_linesOf.calls (a0 : ByteArray) (r1 : List ByteArray) (r2 : Bool) (w : World) (hT : Tt.TT w) (h : impl_linesOf.f a0 = some (r1, r2)) :
    Calls Tryd.prog 65 #[.string a0] w fun e w' => ∃ v0_ : Value, e = .returned (.tuple #[v0_, .bool r2]) ∧ Kd.R Kd.string 9 w' w.heap.size (fun _ => True) v0_ r1 ∧ Below w.heap.size w w' := by
  have HB := Aside0.mk (Below.refl w.heap.size w)
  have H : (if a0.toList = ([] : List UInt8) then (some (([] : List ByteArray), true)) else ((strings_Split.f a0 (⟨#[10]⟩ : ByteArray)).bind fun t219 => (if 0 ≤ (wrap64 ((t219.length : Int) - 1)) then (if (wrap64 ((t219.length : Int) - 1)) < (t219.length : Int) then (if (wrap64 ((t219.length : Int) - 1)) ≤ (t219.length : Int) then (some ((t219.take ((wrap64 ((t219.length : Int) - 1)) : Int).toNat), ((rdOf ByteArray.empty t219 (wrap64 ((t219.length : Int) - 1))).toList == ([] : List UInt8)))) else (none)) else (none)) else (none)))) = some (r1, r2) := h
  clear h
  by_cases c2 : a0.toList = ([] : List UInt8)
  · rw [if_pos c2] at H
    have c2b0 : (a0.toList == ([] : List UInt8)) = true := beq_iff_eq.mpr c2
    have c2b1 : (a0.toList != ([] : List UInt8)) = false := bne_eq_false_iff_eq.mpr c2
    clear c2
    simp only [Option.some.injEq, Prod.mk.injEq] at H
    obtain ⟨rfl, rfl⟩ := H
    go_enter Tryd.func65, Tryd.ntmps65
    go_wp2
    repeat (go_quiet (fail); try go_wp2)
    go_ret2
    exact ⟨_, by first | rfl | (simp [errW_none, errW_some] <;> rfl) | (simp [*, errW_none, errW_some] <;> rfl), by first | exact Kd.R_nil _ _ _ _ _ | exact Kd.N_nil _ _ _ _ _ | exact Kd.V_nil _ _ _ _ _ | exact Kd.Q_nil _ _ _ _ _ | exact Kd.S_nil _ _ _ _ _, by repeat (first | (with_reducible first | exact HB.out | apply below_alloc | apply pw_below_drewN | apply below_drew1) | exact HB.out)⟩
  · rw [if_neg c2] at H
    have c2b0 : (a0.toList == ([] : List UInt8)) = false := beq_eq_false_iff_ne.mpr c2
    have c2b1 : (a0.toList != ([] : List UInt8)) = true := bne_iff_ne.mpr c2
    replace H := Option.bind_eq_some_iff.mp H
    obtain ⟨t219, A30, H⟩ := H
    replace H : (if 0 ≤ (wrap64 ((t219.length : Int) - 1)) then (if (wrap64 ((t219.length : Int) - 1)) < (t219.length : Int) then (if (wrap64 ((t219.length : Int) - 1)) ≤ (t219.length : Int) then (some ((t219.take ((wrap64 ((t219.length : Int) - 1)) : Int).toNat), ((rdOf ByteArray.empty t219 (wrap64 ((t219.length : Int) - 1))).toList == ([] : List UInt8)))) else (none)) else (none)) else (none)) = some (r1, r2) := H
    have A3 := Aside0.mk A30
    clear A30
    obtain ⟨ji4, hji4⟩ : ∃ j_ : Int, (wrap64 ((t219.length : Int) - 1)) = j_ := ⟨_, rfl⟩
    replace H : (if 0 ≤ (ji4) then (if (ji4) < (t219.length : Int) then (if (ji4) ≤ (t219.length : Int) then (some ((t219.take ((ji4) : Int).toNat), ((rdOf ByteArray.empty t219 (ji4)).toList == ([] : List UInt8)))) else (none)) else (none)) else (none)) = some (r1, r2) := by first | (rw [hji4] at H; exact H) | (simp only [hji4] at H ⊢; exact H)
    (try rw [hji4] at A3)
    have hji4w : (IntKind.i64.wrap ((t219.length : Int) - 1)) = ji4 := (i64_w _).trans hji4
    by_cases c5 : 0 ≤ (ji4)
    · rw [if_pos c5] at H
      have c5b0 : decide (0 ≤ (ji4)) = true := decide_eq_true c5
      clear c5
      by_cases c6 : (ji4) < (t219.length : Int)
      · rw [if_pos c6] at H
        have c6b0 : decide ((ji4) < (t219.length : Int)) = true := decide_eq_true c6
        clear c6
        by_cases c7 : (ji4) ≤ (t219.length : Int)
        · rw [if_pos c7] at H
          have c7b0 := eq_true c7
          have c7b1 : decide ((ji4) ≤ (t219.length : Int)) = true := decide_eq_true c7
          clear c7
          obtain ⟨y223, hy223⟩ : ∃ y_ : List ByteArray, y_ = (t219.take ((ji4) : Int).toNat) := ⟨_, rfl⟩
          replace H : (some (y223, ((rdOf ByteArray.empty t219 (ji4)).toList == ([] : List UInt8)))) = some (r1, r2) := by first | (rw [hy223]; with_reducible exact H) | (have H2_ := (Option.bind_some _ _).symm.trans H; rw [hy223]; with_reducible exact H2_) | (have H2_ := (Option.bind_some _ _).symm.trans H; with_reducible exact H2_) | with_reducible exact H | (rw [hy223]; exact H) | exact H
          have Ny223 := Aside0.mk hy223
          clear hy223
          simp only [Option.some.injEq, Prod.mk.injEq] at H
          obtain ⟨rfl, rfl⟩ := H
          go_enter Tryd.func65, Tryd.ntmps65
          go_wp2_with (first | (go_at_call 54; (with_reducible refine (strings_Split.calls a0 (⟨#[10]⟩ : ByteArray) t219 _ ?side1 A3.out).mono ?_); (case side1 => first | exact hT | exact Tt.TT_on hT (by repeat (first | (with_reducible first | exact HB.out | apply below_alloc | apply pw_below_drewN | apply below_drew1) | exact HB.out))); rintro e w8 ⟨v220, rfl, ho0, hb⟩; have n0_ := Aside0.mk (Kd.R_lower ho0 (below_size (by repeat (first | (with_reducible first | exact HB.out | apply below_alloc | apply pw_below_drewN | apply below_drew1) | exact HB.out)))); have n1_ := Aside0.mk (below_step (by repeat (first | (with_reducible first | exact HB.out | apply below_alloc | apply pw_below_drewN | apply below_drew1) | exact HB.out)) hb); clear HB; have HO221 := n0_; have HB := n1_; clear n0_ n1_; (try clear hb); (try clear hb2); (try clear hk); (try clear hi); (try clear ho0); obtain ⟨Ao9, co9, eo9⟩ := Kd.R_slice HO221.out; subst eo9; have p222 : 0 ≤ ((ji4) : Int) := of_decide_eq_true (by first | (with_reducible assumption) | assumption); have q222 : (ji4) < (t219.length : Int) := of_decide_eq_true (by first | (with_reducible assumption) | assumption); obtain ⟨ad222, e222, hx222_0⟩ := Kd.at_string (Kd.R_reads' HO221.out).2.2 (ji4) p222 q222; cases e222; replace p222 := eq_true p222; replace q222 := eq_true q222; have q10 : ((ji4) : Int) ≤ ((t219.length : Int) : Int) := of_decide_eq_true (by first | (with_reducible assumption) | assumption); obtain ⟨i010, hi010, _, hsz10, _⟩ := info_parts info9; have hcut10 := cut_to (P := Tryd.prog) 80 9 .i64 Tryd.underlying80 hi010 (some ad222) t219.length co9 (ji4) (of_decide_eq_true (by first | (with_reducible assumption) | assumption)) q10 (Kd.R_reads' HO221.out).2.1; have hr10 := Kd.R_take (m := ((ji4) : Int).toNat) HO221.out (by omega); have hy10 : y223.length = ((ji4) : Int).toNat := (by rw [Ny223.out, List.length_take]; omega); rw [← Ny223.out] at hr10; rw [← hy10] at hr10 hcut10; clear hy10 hi010 hsz10 HO221; have HO225 := Aside0.mk hr10; clear hr10; replace q10 := eq_true q10))
          repeat (go_quiet (first | (go_at_call 54; (with_reducible refine (strings_Split.calls a0 (⟨#[10]⟩ : ByteArray) t219 _ ?side1 A3.out).mono ?_); (case side1 => first | exact hT | exact Tt.TT_on hT (by repeat (first | (with_reducible first | exact HB.out | apply below_alloc | apply pw_below_drewN | apply below_drew1) | exact HB.out))); rintro e w8 ⟨v220, rfl, ho0, hb⟩; have n0_ := Aside0.mk (Kd.R_lower ho0 (below_size (by repeat (first | (with_reducible first | exact HB.out | apply below_alloc | apply pw_below_drewN | apply below_drew1) | exact HB.out)))); have n1_ := Aside0.mk (below_step (by repeat (first | (with_reducible first | exact HB.out | apply below_alloc | apply pw_below_drewN | apply below_drew1) | exact HB.out)) hb); clear HB; have HO221 := n0_; have HB := n1_; clear n0_ n1_; (try clear hb); (try clear hb2); (try clear hk); (try clear hi); (try clear ho0); obtain ⟨Ao9, co9, eo9⟩ := Kd.R_slice HO221.out; subst eo9; have p222 : 0 ≤ ((ji4) : Int) := of_decide_eq_true (by first | (with_reducible assumption) | assumption); have q222 : (ji4) < (t219.length : Int) := of_decide_eq_true (by first | (with_reducible assumption) | assumption); obtain ⟨ad222, e222, hx222_0⟩ := Kd.at_string (Kd.R_reads' HO221.out).2.2 (ji4) p222 q222; cases e222; replace p222 := eq_true p222; replace q222 := eq_true q222; have q10 : ((ji4) : Int) ≤ ((t219.length : Int) : Int) := of_decide_eq_true (by first | (with_reducible assumption) | assumption); obtain ⟨i010, hi010, _, hsz10, _⟩ := info_parts info9; have hcut10 := cut_to (P := Tryd.prog) 80 9 .i64 Tryd.underlying80 hi010 (some ad222) t219.length co9 (ji4) (of_decide_eq_true (by first | (with_reducible assumption) | assumption)) q10 (Kd.R_reads' HO221.out).2.1; have hr10 := Kd.R_take (m := ((ji4) : Int).toNat) HO221.out (by omega); have hy10 : y223.length = ((ji4) : Int).toNat := (by rw [Ny223.out, List.length_take]; omega); rw [← Ny223.out] at hr10; rw [← hy10] at hr10 hcut10; clear hy10 hi010 hsz10 HO221; have HO225 := Aside0.mk hr10; clear hr10; replace q10 := eq_true q10)); try go_wp2_with (first | (go_at_call 54; (with_reducible refine (strings_Split.calls a0 (⟨#[10]⟩ : ByteArray) t219 _ ?side1 A3.out).mono ?_); (case side1 => first | exact hT | exact Tt.TT_on hT (by repeat (first | (with_reducible first | exact HB.out | apply below_alloc | apply pw_below_drewN | apply below_drew1) | exact HB.out))); rintro e w8 ⟨v220, rfl, ho0, hb⟩; have n0_ := Aside0.mk (Kd.R_lower ho0 (below_size (by repeat (first | (with_reducible first | exact HB.out | apply below_alloc | apply pw_below_drewN | apply below_drew1) | exact HB.out)))); have n1_ := Aside0.mk (below_step (by repeat (first | (with_reducible first | exact HB.out | apply below_alloc | apply pw_below_drewN | apply below_drew1) | exact HB.out)) hb); clear HB; have HO221 := n0_; have HB := n1_; clear n0_ n1_; (try clear hb); (try clear hb2); (try clear hk); (try clear hi); (try clear ho0); obtain ⟨Ao9, co9, eo9⟩ := Kd.R_slice HO221.out; subst eo9; have p222 : 0 ≤ ((ji4) : Int) := of_decide_eq_true (by first | (with_reducible assumption) | assumption); have q222 : (ji4) < (t219.length : Int) := of_decide_eq_true (by first | (with_reducible assumption) | assumption); obtain ⟨ad222, e222, hx222_0⟩ := Kd.at_string (Kd.R_reads' HO221.out).2.2 (ji4) p222 q222; cases e222; replace p222 := eq_true p222; replace q222 := eq_true q222; have q10 : ((ji4) : Int) ≤ ((t219.length : Int) : Int) := of_decide_eq_true (by first | (with_reducible assumption) | assumption); obtain ⟨i010, hi010, _, hsz10, _⟩ := info_parts info9; have hcut10 := cut_to (P := Tryd.prog) 80 9 .i64 Tryd.underlying80 hi010 (some ad222) t219.length co9 (ji4) (of_decide_eq_true (by first | (with_reducible assumption) | assumption)) q10 (Kd.R_reads' HO221.out).2.1; have hr10 := Kd.R_take (m := ((ji4) : Int).toNat) HO221.out (by omega); have hy10 : y223.length = ((ji4) : Int).toNat := (by rw [Ny223.out, List.length_take]; omega); rw [← Ny223.out] at hr10; rw [← hy10] at hr10 hcut10; clear hy10 hi010 hsz10 HO221; have HO225 := Aside0.mk hr10; clear hr10; replace q10 := eq_true q10)))
          go_ret2
          exact ⟨_, by first | rfl | (simp [errW_none, errW_some] <;> rfl) | (simp only [← hji4]; first | rfl | (simp [errW_none, errW_some] <;> rfl)) | (simp [*, errW_none, errW_some] <;> rfl), by (with_reducible repeat (first | apply Kd.R_alloc | apply Kd.R_drewN | apply Kd.R_drew)); exact HO225.out, by repeat (first | (with_reducible first | exact HB.out | apply below_alloc | apply pw_below_drewN | apply below_drew1) | exact HB.out)⟩
        · rw [if_neg c7] at H
          exact absurd H (by simp)
      · rw [if_neg c6] at H
        exact absurd H (by simp)
    · rw [if_neg c5] at H
      exact absurd H (by simp)

/-! ### strings_SplitN: function 66 -/
def strings_SplitN.f (a0 : ByteArray) (a1 : ByteArray) (a2 : Int) : Option (List ByteArray) := if a0.size < 4294967281 ∧ 1 ≤ a1.size ∧ 1 ≤ a2 ∧ a2 ≤ 9223372036854775807 then some (Lib.splitB a1 0 (min a2.toNat (a0.size + 1) - 1) a0) else none
set_option maxHeartbeats 8000000 in
set_option maxRecDepth 100000 in
theorem strings_SplitN.calls (a0 : ByteArray) (a1 : ByteArray) (a2 : Int) (r : List ByteArray) (w : World) (hT : Tt.TT w) (h : strings_SplitN.f a0 a1 a2 = some r) :
    Calls Tryd.prog 66 #[.string a0, .string a1, .int .i64 a2] w fun e w' => ∃ v0_ : Value, e = .returned (v0_) ∧ Kd.R Kd.string 9 w' w.heap.size (fun _ => True) v0_ r ∧ Below w.heap.size w w' := by
  unfold strings_SplitN.f at h
  split at h
  · rename_i hc
    injection h with h
    subst h
    exact Tt.splitN_call 66 rfl a0 a1 a2 w hT hc.1 hc.2.1 hc.2.2.1 hc.2.2.2
  · cases h

end Go.Proofs.YtfjmljgbdejghaaDoor.MReadDebts
