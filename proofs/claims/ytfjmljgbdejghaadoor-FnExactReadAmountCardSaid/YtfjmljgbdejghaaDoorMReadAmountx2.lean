-- by a program of this session, for this claim
import Derived.Test.YtfjmljgbdejghaaDoorMReadAmountx0
import Derived.Test.YtfjmljgbdejghaaDoorMReadAmountx1
namespace Go.Proofs.YtfjmljgbdejghaaDoor.MReadAmount
open Go.RowKit Go.Proofs.YtfjmljgbdejghaaDoorW.PrintWords Go.Proofs.YtfjmljgbdejghaaDoorW.PrintLast Go.Proofs.YtfjmljgbdejghaaDoorW.PrintMore
attribute [local go_sem] max2_int min2_int max_two min_two max_three min_three max_four min_four   -- for this text's walks alone
set_option linter.unusedVariables false
set_option linter.unusedSimpArgs false

/-! ### spec_l01Part: function 122 -/
def spec_l01Part.f (k : Nat) (a0 : ByteArray) (a1 : Int) (a2 : ByteArray) : Option (ByteArray) := if a1 = 0 then (some a0) else (if a0.toList = ([] : List UInt8) then ((spec_Decimal.f k a1).bind fun t118 => (if a0.size + t118.size ≤ 9223372036854775807 then (if (a0 ++ t118).size + a2.size ≤ 9223372036854775807 then (some ((a0 ++ t118) ++ a2)) else (none)) else (none))) else (if a0.size + 1 ≤ 9223372036854775807 then ((spec_Decimal.f k a1).bind fun t119 => (if (a0 ++ (⟨#[32]⟩ : ByteArray)).size + t119.size ≤ 9223372036854775807 then (if ((a0 ++ (⟨#[32]⟩ : ByteArray)) ++ t119).size + a2.size ≤ 9223372036854775807 then (some (((a0 ++ (⟨#[32]⟩ : ByteArray)) ++ t119) ++ a2)) else (none)) else (none))) else (none)))
theorem spec_l01Part.mono : ∀ a0 a1 a2 k, LeO (spec_l01Part.f k a0 a1 a2) (spec_l01Part.f (k + 1) a0 a1 a2) := by
  intro a0 a1 a2 k
  unfold spec_l01Part.f
  repeat' first
      | (with_reducible exact spec_Decimal.mono _ _)
      | (with_reducible exact LeO.refl _)
      | (with_reducible exact LeO.none _)
      | (with_reducible refine LeO.ite ?_ ?_)
      | (with_reducible refine LeO.bind ?_ (fun _ => ?_))
      | exact spec_Decimal.mono _ _
      | exact LeO.none _
      | refine LeO.ite ?_ ?_
      | refine LeO.bind ?_ (fun _ => ?_)
set_option maxHeartbeats 8000000 in
set_option maxRecDepth 100000 in
theorem spec_l01Part.calls (k : Nat) (a0 : ByteArray) (a1 : Int) (a2 : ByteArray) (r : ByteArray) (w : World) (h : spec_l01Part.f k a0 a1 a2 = some r) :
    Calls Tryd.prog 122 #[.string a0, .int .i64 a1, .string a2] w fun e w' => e = .returned (.string r) ∧ Below w.heap.size w w' := by
  have HB := Aside0.mk (Below.refl w.heap.size w)
  have H : (if a1 = 0 then (some a0) else (if a0.toList = ([] : List UInt8) then ((spec_Decimal.f k a1).bind fun t118 => (if a0.size + t118.size ≤ 9223372036854775807 then (if (a0 ++ t118).size + a2.size ≤ 9223372036854775807 then (some ((a0 ++ t118) ++ a2)) else (none)) else (none))) else (if a0.size + 1 ≤ 9223372036854775807 then ((spec_Decimal.f k a1).bind fun t119 => (if (a0 ++ (⟨#[32]⟩ : ByteArray)).size + t119.size ≤ 9223372036854775807 then (if ((a0 ++ (⟨#[32]⟩ : ByteArray)) ++ t119).size + a2.size ≤ 9223372036854775807 then (some (((a0 ++ (⟨#[32]⟩ : ByteArray)) ++ t119) ++ a2)) else (none)) else (none))) else (none)))) = some r := h
  clear h
  by_cases c4 : a1 = 0
  · rw [if_pos c4] at H
    have c4b0 : (a1 == 0) = true := beq_iff_eq.mpr c4
    have c4b1 : (a1 != 0) = false := bne_eq_false_iff_eq.mpr c4
    clear c4
    obtain rfl := Option.some.inj H
    go_enter Tryd.func122, Tryd.ntmps122
    go_wp2
    go_ret
    exact ⟨by first | rfl | (simp [errW_none, errW_some] <;> rfl) | (simp [*, errW_none, errW_some] <;> rfl), by repeat (first | (with_reducible first | exact HB.out | apply below_alloc | apply pw_below_drewN | apply below_drew1) | exact HB.out)⟩
  · rw [if_neg c4] at H
    have c4b0 : (a1 == 0) = false := beq_eq_false_iff_ne.mpr c4
    have c4b1 : (a1 != 0) = true := bne_iff_ne.mpr c4
    by_cases c5 : a0.toList = ([] : List UInt8)
    · rw [if_pos c5] at H
      have c5b0 : (a0.toList == ([] : List UInt8)) = true := beq_iff_eq.mpr c5
      have c5b1 : (a0.toList != ([] : List UInt8)) = false := bne_eq_false_iff_eq.mpr c5
      clear c5
      replace H := Option.bind_eq_some_iff.mp H
      obtain ⟨t118, A60, H⟩ := H
      replace H : (if a0.size + t118.size ≤ 9223372036854775807 then (if (a0 ++ t118).size + a2.size ≤ 9223372036854775807 then (some ((a0 ++ t118) ++ a2)) else (none)) else (none)) = some r := H
      have A6 := Aside0.mk A60
      clear A60
      by_cases c7 : a0.size + t118.size ≤ 9223372036854775807
      · rw [if_pos c7] at H
        have c7b0 := eq_true c7
        have c7b1 : decide (a0.size + t118.size ≤ 9223372036854775807) = true := decide_eq_true c7
        try have c7b2 : (9223372036854775807 < a0.size + t118.size) = False := eq_false (Nat.not_lt.2 c7)
        try (have c7b3 := c7b2; simp only [go_sem, List.size_toArray, List.length_cons, List.length_nil, Nat.zero_add] at c7b3)
        by_cases c8 : (a0 ++ t118).size + a2.size ≤ 9223372036854775807
        · rw [if_pos c8] at H
          have c8b0 := eq_true c8
          have c8b1 : decide ((a0 ++ t118).size + a2.size ≤ 9223372036854775807) = true := decide_eq_true c8
          try have c8b2 : (9223372036854775807 < (a0 ++ t118).size + a2.size) = False := eq_false (Nat.not_lt.2 c8)
          try (have c8b3 := c8b2; simp only [go_sem, List.size_toArray, List.length_cons, List.length_nil, Nat.zero_add] at c8b3)
          obtain rfl := Option.some.inj H
          go_enter Tryd.func122, Tryd.ntmps122
          go_wp2_with (first | ((with_reducible refine gate_callee (f := 105) rfl ?_); refine goesL_ (some 16) rfl rfl Tryd.func105 (by kernel_rfl) rfl #[.int .i64 a1] rfl (by (try simp only [List.map_toArray, List.map_cons, List.map_nil]); first | done | (go_simp; done) | rfl | (simp only [List.length_drop, List.length_take]; rfl)) ?_; (with_reducible refine (spec_Decimal.calls k a1 t118 _ A6.out).mono ?_); rintro e w9 ⟨rfl, hb⟩; refine ⟨_, rfl, ?_⟩; have n0_ := Aside0.mk (below_step (by repeat (first | (with_reducible first | exact HB.out | apply below_alloc | apply pw_below_drewN | apply below_drew1) | exact HB.out)) hb); clear HB; have HB := n0_; clear n0_; (try clear hb); (try clear hb2); (try clear hk); (try clear hi)))
          go_ret
          exact ⟨by first | rfl | (simp [errW_none, errW_some] <;> rfl) | (simp [*, errW_none, errW_some] <;> rfl), by repeat (first | (with_reducible first | exact HB.out | apply below_alloc | apply pw_below_drewN | apply below_drew1) | exact HB.out)⟩
        · rw [if_neg c8] at H
          exact absurd H (by simp)
      · rw [if_neg c7] at H
        exact absurd H (by simp)
    · rw [if_neg c5] at H
      have c5b0 : (a0.toList == ([] : List UInt8)) = false := beq_eq_false_iff_ne.mpr c5
      have c5b1 : (a0.toList != ([] : List UInt8)) = true := bne_iff_ne.mpr c5
      by_cases c10 : a0.size + 1 ≤ 9223372036854775807
      · rw [if_pos c10] at H
        have c10b0 := eq_true c10
        have c10b1 : decide (a0.size + 1 ≤ 9223372036854775807) = true := decide_eq_true c10
        try have c10b2 : (9223372036854775807 < a0.size + 1) = False := eq_false (Nat.not_lt.2 c10)
        try (have c10b3 := c10b2; simp only [go_sem, List.size_toArray, List.length_cons, List.length_nil, Nat.zero_add] at c10b3)
        replace H := Option.bind_eq_some_iff.mp H
        obtain ⟨t119, A110, H⟩ := H
        replace H : (if (a0 ++ (⟨#[32]⟩ : ByteArray)).size + t119.size ≤ 9223372036854775807 then (if ((a0 ++ (⟨#[32]⟩ : ByteArray)) ++ t119).size + a2.size ≤ 9223372036854775807 then (some (((a0 ++ (⟨#[32]⟩ : ByteArray)) ++ t119) ++ a2)) else (none)) else (none)) = some r := H
        have A11 := Aside0.mk A110
        clear A110
        by_cases c12 : (a0 ++ (⟨#[32]⟩ : ByteArray)).size + t119.size ≤ 9223372036854775807
        · rw [if_pos c12] at H
          have c12b0 := eq_true c12
          have c12b1 : decide ((a0 ++ (⟨#[32]⟩ : ByteArray)).size + t119.size ≤ 9223372036854775807) = true := decide_eq_true c12
          try have c12b2 : (9223372036854775807 < (a0 ++ (⟨#[32]⟩ : ByteArray)).size + t119.size) = False := eq_false (Nat.not_lt.2 c12)
          try (have c12b3 := c12b2; simp only [go_sem, List.size_toArray, List.length_cons, List.length_nil, Nat.zero_add] at c12b3)
          by_cases c13 : ((a0 ++ (⟨#[32]⟩ : ByteArray)) ++ t119).size + a2.size ≤ 9223372036854775807
          · rw [if_pos c13] at H
            have c13b0 := eq_true c13
            have c13b1 : decide (((a0 ++ (⟨#[32]⟩ : ByteArray)) ++ t119).size + a2.size ≤ 9223372036854775807) = true := decide_eq_true c13
            try have c13b2 : (9223372036854775807 < ((a0 ++ (⟨#[32]⟩ : ByteArray)) ++ t119).size + a2.size) = False := eq_false (Nat.not_lt.2 c13)
            try (have c13b3 := c13b2; simp only [go_sem, List.size_toArray, List.length_cons, List.length_nil, Nat.zero_add] at c13b3)
            obtain rfl := Option.some.inj H
            go_enter Tryd.func122, Tryd.ntmps122
            go_wp2_with (first | ((with_reducible refine gate_callee (f := 105) rfl ?_); refine goesL_ (some 16) rfl rfl Tryd.func105 (by kernel_rfl) rfl #[.int .i64 a1] rfl (by (try simp only [List.map_toArray, List.map_cons, List.map_nil]); first | done | (go_simp; done) | rfl | (simp only [List.length_drop, List.length_take]; rfl)) ?_; (with_reducible refine (spec_Decimal.calls k a1 t119 _ A11.out).mono ?_); rintro e w14 ⟨rfl, hb⟩; refine ⟨_, rfl, ?_⟩; have n0_ := Aside0.mk (below_step (by repeat (first | (with_reducible first | exact HB.out | apply below_alloc | apply pw_below_drewN | apply below_drew1) | exact HB.out)) hb); clear HB; have HB := n0_; clear n0_; (try clear hb); (try clear hb2); (try clear hk); (try clear hi)))
            go_ret
            exact ⟨by first | rfl | (simp [errW_none, errW_some] <;> rfl) | (simp [*, errW_none, errW_some] <;> rfl), by repeat (first | (with_reducible first | exact HB.out | apply below_alloc | apply pw_below_drewN | apply below_drew1) | exact HB.out)⟩
          · rw [if_neg c13] at H
            exact absurd H (by simp)
        · rw [if_neg c12] at H
          exact absurd H (by simp)
      · rw [if_neg c10] at H
        exact absurd H (by simp)

/-! ### spec_l01AmountText: function 100 -/
def spec_l01AmountText.f (k : Nat) (a0 : Int) : Option (ByteArray) := if a0 = 0 then (some (⟨#[48, 100]⟩ : ByteArray)) else ((spec_l01Part.f k (⟨#[]⟩ : ByteArray) (wrap64 (Int.tdiv a0 240)) (⟨#[108]⟩ : ByteArray)).bind fun t120 => ((spec_l01Part.f k t120 (Int.tmod (wrap64 (Int.tdiv a0 12)) 20) (⟨#[115]⟩ : ByteArray)).bind fun t121 => ((spec_l01Part.f k t121 (Int.tmod a0 12) (⟨#[100]⟩ : ByteArray)).bind fun t122 => (some t122))))
theorem spec_l01AmountText.mono : ∀ a0 k, LeO (spec_l01AmountText.f k a0) (spec_l01AmountText.f (k + 1) a0) := by
  intro a0 k
  unfold spec_l01AmountText.f
  repeat' first
      | (with_reducible exact spec_l01Part.mono _ _ _ _)
      | (with_reducible exact LeO.refl _)
      | (with_reducible exact LeO.none _)
      | (with_reducible refine LeO.ite ?_ ?_)
      | (with_reducible refine LeO.bind ?_ (fun _ => ?_))
      | exact spec_l01Part.mono _ _ _ _
      | exact LeO.none _
      | refine LeO.ite ?_ ?_
      | refine LeO.bind ?_ (fun _ => ?_)
set_option maxHeartbeats 8000000 in
set_option maxRecDepth 100000 in
theorem spec_l01AmountText.calls (k : Nat) (a0 : Int) (r : ByteArray) (w : World) (h : spec_l01AmountText.f k a0 = some r) :
    Calls Tryd.prog 100 #[.int .i64 a0] w fun e w' => e = .returned (.string r) ∧ Below w.heap.size w w' := by
  have HB := Aside0.mk (Below.refl w.heap.size w)
  have H : (if a0 = 0 then (some (⟨#[48, 100]⟩ : ByteArray)) else ((spec_l01Part.f k (⟨#[]⟩ : ByteArray) (wrap64 (Int.tdiv a0 240)) (⟨#[108]⟩ : ByteArray)).bind fun t120 => ((spec_l01Part.f k t120 (Int.tmod (wrap64 (Int.tdiv a0 12)) 20) (⟨#[115]⟩ : ByteArray)).bind fun t121 => ((spec_l01Part.f k t121 (Int.tmod a0 12) (⟨#[100]⟩ : ByteArray)).bind fun t122 => (some t122))))) = some r := h
  clear h
  by_cases c2 : a0 = 0
  · rw [if_pos c2] at H
    have c2b0 : (a0 == 0) = true := beq_iff_eq.mpr c2
    have c2b1 : (a0 != 0) = false := bne_eq_false_iff_eq.mpr c2
    clear c2
    obtain rfl := Option.some.inj H
    go_enter Tryd.func100, Tryd.ntmps100
    go_wp2
    go_ret
    exact ⟨by first | rfl | (simp [errW_none, errW_some] <;> rfl) | (simp [*, errW_none, errW_some] <;> rfl), by repeat (first | (with_reducible first | exact HB.out | apply below_alloc | apply pw_below_drewN | apply below_drew1) | exact HB.out)⟩
  · rw [if_neg c2] at H
    have c2b0 : (a0 == 0) = false := beq_eq_false_iff_ne.mpr c2
    have c2b1 : (a0 != 0) = true := bne_iff_ne.mpr c2
    replace H := Option.bind_eq_some_iff.mp H
    obtain ⟨t120, A30, H⟩ := H
    replace H : ((spec_l01Part.f k t120 (Int.tmod (wrap64 (Int.tdiv a0 12)) 20) (⟨#[115]⟩ : ByteArray)).bind fun t121 => ((spec_l01Part.f k t121 (Int.tmod a0 12) (⟨#[100]⟩ : ByteArray)).bind fun t122 => (some t122))) = some r := H
    have A3 := Aside0.mk A30
    clear A30
    replace H := Option.bind_eq_some_iff.mp H
    obtain ⟨t121, A40, H⟩ := H
    replace H : ((spec_l01Part.f k t121 (Int.tmod a0 12) (⟨#[100]⟩ : ByteArray)).bind fun t122 => (some t122)) = some r := H
    have A4 := Aside0.mk A40
    clear A40
    replace H := Option.bind_eq_some_iff.mp H
    obtain ⟨t122, A50, H⟩ := H
    replace H : (some t122) = some r := H
    have A5 := Aside0.mk A50
    clear A50
    obtain rfl := Option.some.inj H
    go_enter Tryd.func100, Tryd.ntmps100
    go_wp2_with (first | ((with_reducible refine gate_callee (f := 122) rfl ?_); refine goesL_ (some 8) rfl rfl Tryd.func122 (by kernel_rfl) rfl #[.string (⟨#[]⟩ : ByteArray), .int .i64 (wrap64 (Int.tdiv a0 240)), .string (⟨#[108]⟩ : ByteArray)] rfl (by (try simp only [List.map_toArray, List.map_cons, List.map_nil]); first | done | (go_simp; done) | rfl | (simp only [List.length_drop, List.length_take]; rfl)) ?_; (with_reducible refine (spec_l01Part.calls k (⟨#[]⟩ : ByteArray) (wrap64 (Int.tdiv a0 240)) (⟨#[108]⟩ : ByteArray) t120 _ A3.out).mono ?_); rintro e w6 ⟨rfl, hb⟩; refine ⟨_, rfl, ?_⟩; have n0_ := Aside0.mk (below_step (by repeat (first | (with_reducible first | exact HB.out | apply below_alloc | apply pw_below_drewN | apply below_drew1) | exact HB.out)) hb); clear HB; have HB := n0_; clear n0_; (try clear hb); (try clear hb2); (try clear hk); (try clear hi)) | ((with_reducible refine gate_callee (f := 122) rfl ?_); refine goesL_ (some 13) rfl rfl Tryd.func122 (by kernel_rfl) rfl #[.string t120, .int .i64 (Int.tmod (wrap64 (Int.tdiv a0 12)) 20), .string (⟨#[115]⟩ : ByteArray)] rfl (by (try simp only [List.map_toArray, List.map_cons, List.map_nil]); first | done | (go_simp; done) | rfl | (simp only [List.length_drop, List.length_take]; rfl)) ?_; (with_reducible refine (spec_l01Part.calls k t120 (Int.tmod (wrap64 (Int.tdiv a0 12)) 20) (⟨#[115]⟩ : ByteArray) t121 _ A4.out).mono ?_); rintro e w7 ⟨rfl, hb⟩; refine ⟨_, rfl, ?_⟩; have n0_ := Aside0.mk (below_step (by repeat (first | (with_reducible first | exact HB.out | apply below_alloc | apply pw_below_drewN | apply below_drew1) | exact HB.out)) hb); clear HB; have HB := n0_; clear n0_; (try clear hb); (try clear hb2); (try clear hk); (try clear hi)) | ((with_reducible refine gate_callee (f := 122) rfl ?_); refine goesL_ (some 17) rfl rfl Tryd.func122 (by kernel_rfl) rfl #[.string t121, .int .i64 (Int.tmod a0 12), .string (⟨#[100]⟩ : ByteArray)] rfl (by (try simp only [List.map_toArray, List.map_cons, List.map_nil]); first | done | (go_simp; done) | rfl | (simp only [List.length_drop, List.length_take]; rfl)) ?_; (with_reducible refine (spec_l01Part.calls k t121 (Int.tmod a0 12) (⟨#[100]⟩ : ByteArray) t122 _ A5.out).mono ?_); rintro e w8 ⟨rfl, hb⟩; refine ⟨_, rfl, ?_⟩; have n0_ := Aside0.mk (below_step (by repeat (first | (with_reducible first | exact HB.out | apply below_alloc | apply pw_below_drewN | apply below_drew1) | exact HB.out)) hb); clear HB; have HB := n0_; clear n0_; (try clear hb); (try clear hb2); (try clear hk); (try clear hi)))
    go_ret
    exact ⟨by first | rfl | (simp [errW_none, errW_some] <;> rfl) | (simp [*, errW_none, errW_some] <;> rfl), by repeat (first | (with_reducible first | exact HB.out | apply below_alloc | apply pw_below_drewN | apply below_drew1) | exact HB.out)⟩

/-! ### spec_l01ReadAmount: function 53 -/
mutual
def spec_l01ReadAmount.l0 : Nat → ByteArray → List ByteArray → Int → Int → Option (Int × Bool)
  | 0, _, _, _, _ => none
  | k + 1, x0, x4, x5, x6 => if x6 < (x4.length : Int) then (if 0 ≤ x6 then (if ((rdOf ByteArray.empty x4 x6).size : Int) < 2 then (some (0, false)) else (if 0 ≤ (wrap64 (((rdOf ByteArray.empty x4 x6).size : Int) - 1)) then (if (wrap64 (((rdOf ByteArray.empty x4 x6).size : Int) - 1)) ≤ ((rdOf ByteArray.empty x4 x6).size : Int) then ((spec_l01Number.f k ((rdOf ByteArray.empty x4 x6).extract 0 ((wrap64 (((rdOf ByteArray.empty x4 x6).size : Int) - 1)) : Int).toNat)).bind fun bt130 => (if bt130.2 = true then (spec_l01ReadAmount.j1 k x0 x4 x5 x6 ((rdOf ByteArray.empty x4 x6).size : Int) bt130.1 (decide (bt130.1 > 100000000))) else (spec_l01ReadAmount.j1 k x0 x4 x5 x6 ((rdOf ByteArray.empty x4 x6).size : Int) bt130.1 true))) else (none)) else (none))) else (none)) else ((spec_l01Amount.f x5).bind fun t126 => (if t126 = true then ((spec_l01AmountText.f k x5).bind fun t127 => (some (x5, (t127.toList == x0.toList)))) else (some (x5, false))))
def spec_l01ReadAmount.j1 : Nat → ByteArray → List ByteArray → Int → Int → Int → Int → Bool → Option (Int × Bool)
  | 0, _, _, _, _, _, _, _ => none
  | k + 1, x0, x4, x5, x6, x7, x8, x41 => if x41 = true then (some (0, false)) else (if 0 ≤ x6 then (if x6 < (x4.length : Int) then (if 0 ≤ (wrap64 (x7 - 1)) then (if (wrap64 (x7 - 1)) < ((rdOf ByteArray.empty x4 x6).size : Int) then (if (bt (rdOf ByteArray.empty x4 x6) (wrap64 (x7 - 1))) = 108 then (spec_l01ReadAmount.l0 k x0 x4 (wrap64 (x5 + (wrap64 (240 * x8)))) (wrap64 (x6 + 1))) else (if (bt (rdOf ByteArray.empty x4 x6) (wrap64 (x7 - 1))) = 115 then (spec_l01ReadAmount.l0 k x0 x4 (wrap64 (x5 + (wrap64 (12 * x8)))) (wrap64 (x6 + 1))) else (if (bt (rdOf ByteArray.empty x4 x6) (wrap64 (x7 - 1))) = 100 then (spec_l01ReadAmount.l0 k x0 x4 (wrap64 (x5 + x8)) (wrap64 (x6 + 1))) else (some (0, false))))) else (none)) else (none)) else (none)) else (none))
end
def spec_l01ReadAmount.f (k : Nat) (a0 : ByteArray) : Option (Int × Bool) := (spec_l01Split.f k a0 32).bind fun t123 => (spec_l01ReadAmount.l0 k a0 t123 0 0)
theorem spec_l01ReadAmount.mono_l : ∀ k, (∀ y0 y1 y2 y3, LeO (spec_l01ReadAmount.l0 k y0 y1 y2 y3) (spec_l01ReadAmount.l0 (k + 1) y0 y1 y2 y3)) ∧ (∀ y0 y1 y2 y3 y4 y5 y6, LeO (spec_l01ReadAmount.j1 k y0 y1 y2 y3 y4 y5 y6) (spec_l01ReadAmount.j1 (k + 1) y0 y1 y2 y3 y4 y5 y6))
  | 0 => ⟨fun _ _ _ _ r h => by simp [spec_l01ReadAmount.l0] at h, fun _ _ _ _ _ _ _ r h => by simp [spec_l01ReadAmount.j1] at h⟩
  | k + 1 => by
    obtain ⟨ih0, ih1⟩ := spec_l01ReadAmount.mono_l k
    refine ⟨?_, ?_⟩
    · intro y0 y1 y2 y3
      unfold spec_l01ReadAmount.l0
      repeat' first
      | (with_reducible exact ih0 _ _ _ _)
      | (with_reducible exact ih1 _ _ _ _ _ _ _)
      | (with_reducible exact spec_l01AmountText.mono _ _)
      | (with_reducible exact spec_l01Number.mono _ _)
      | (with_reducible exact spec_l01Split.mono _ _ _)
      | (with_reducible exact LeO.refl _)
      | (with_reducible exact LeO.none _)
      | (with_reducible refine LeO.ite ?_ ?_)
      | (with_reducible refine LeO.bind ?_ (fun _ => ?_))
      | exact ih0 _ _ _ _
      | exact ih1 _ _ _ _ _ _ _
      | exact spec_l01AmountText.mono _ _
      | exact spec_l01Number.mono _ _
      | exact spec_l01Split.mono _ _ _
      | exact LeO.none _
      | refine LeO.ite ?_ ?_
      | refine LeO.bind ?_ (fun _ => ?_)
    · intro y0 y1 y2 y3 y4 y5 y6
      unfold spec_l01ReadAmount.j1
      repeat' first
      | (with_reducible exact ih0 _ _ _ _)
      | (with_reducible exact ih1 _ _ _ _ _ _ _)
      | (with_reducible exact spec_l01AmountText.mono _ _)
      | (with_reducible exact spec_l01Number.mono _ _)
      | (with_reducible exact spec_l01Split.mono _ _ _)
      | (with_reducible exact LeO.refl _)
      | (with_reducible exact LeO.none _)
      | (with_reducible refine LeO.ite ?_ ?_)
      | (with_reducible refine LeO.bind ?_ (fun _ => ?_))
      | exact ih0 _ _ _ _
      | exact ih1 _ _ _ _ _ _ _
      | exact spec_l01AmountText.mono _ _
      | exact spec_l01Number.mono _ _
      | exact spec_l01Split.mono _ _ _
      | exact LeO.none _
      | refine LeO.ite ?_ ?_
      | refine LeO.bind ?_ (fun _ => ?_)
theorem spec_l01ReadAmount.mono : ∀ a0 k, LeO (spec_l01ReadAmount.f k a0) (spec_l01ReadAmount.f (k + 1) a0) := by
  intro a0 k
  obtain ⟨ih0, ih1⟩ := spec_l01ReadAmount.mono_l k
  unfold spec_l01ReadAmount.f
  repeat' first
      | (with_reducible exact ih0 _ _ _ _)
      | (with_reducible exact ih1 _ _ _ _ _ _ _)
      | (with_reducible exact spec_l01AmountText.mono _ _)
      | (with_reducible exact spec_l01Number.mono _ _)
      | (with_reducible exact spec_l01Split.mono _ _ _)
      | (with_reducible exact LeO.refl _)
      | (with_reducible exact LeO.none _)
      | (with_reducible refine LeO.ite ?_ ?_)
      | (with_reducible refine LeO.bind ?_ (fun _ => ?_))
      | exact ih0 _ _ _ _
      | exact ih1 _ _ _ _ _ _ _
      | exact spec_l01AmountText.mono _ _
      | exact spec_l01Number.mono _ _
      | exact spec_l01Split.mono _ _ _
      | exact LeO.none _
      | refine LeO.ite ?_ ?_
      | refine LeO.bind ?_ (fun _ => ?_)
set_option maxHeartbeats 8000000 in
set_option maxRecDepth 100000 in
theorem spec_l01ReadAmount.calls (k : Nat) (a0 : ByteArray) (r1 : Int) (r2 : Bool) (w : World) (h : spec_l01ReadAmount.f k a0 = some (r1, r2)) :
    Calls Tryd.prog 53 #[.string a0] w fun e w' => e = .returned (.tuple #[.int .i64 r1, .bool r2]) ∧ Below w.heap.size w w' := by
  have HB := Aside0.mk (Below.refl w.heap.size w)
  have H : ((spec_l01Split.f k a0 32).bind fun t123 => (spec_l01ReadAmount.l0 k a0 t123 0 0)) = some (r1, r2) := h
  clear h
  replace H := Option.bind_eq_some_iff.mp H
  obtain ⟨t123, A20, H⟩ := H
  replace H : (spec_l01ReadAmount.l0 k a0 t123 0 0) = some (r1, r2) := H
  have A2 := Aside0.mk A20
  clear A20
  have H' := Aside0.mk H
  clear H
  go_enter Tryd.func53, Tryd.ntmps53
  go_wp2_with (first | ((with_reducible refine gate_callee (f := 63) rfl ?_); refine goesL_ (some 11) rfl rfl Tryd.func63 (by kernel_rfl) rfl #[.string a0, .int .u8 32] rfl (by (try simp only [List.map_toArray, List.map_cons, List.map_nil]); first | done | (go_simp; done) | rfl | (simp only [List.length_drop, List.length_take]; rfl)) ?_; (with_reducible refine (spec_l01Split.calls k a0 32 t123 _ A2.out).mono ?_); rintro e w3 ⟨v124, rfl, ho0, hb⟩; refine ⟨_, rfl, ?_⟩; have n0_ := Aside0.mk (Kd.R_lower ho0 (below_size (by repeat (first | (with_reducible first | exact HB.out | apply below_alloc | apply pw_below_drewN | apply below_drew1) | exact HB.out)))); have n1_ := Aside0.mk (below_step (by repeat (first | (with_reducible first | exact HB.out | apply below_alloc | apply pw_below_drewN | apply below_drew1) | exact HB.out)) hb); clear HB; have HO125 := n0_; have HB := n1_; clear n0_ n1_; (try clear hb); (try clear hb2); (try clear hk); (try clear hi); (try clear ho0)))
  go_loopg [5, 6] k (fun kq v5 v6 w' => ∃ (x5_1 : Int) (x6_1 : Int), v5 = .int .i64 x5_1 ∧ v6 = .int .i64 x6_1 ∧ Aside0 (spec_l01ReadAmount.l0 kq a0 t123 x5_1 x6_1 = some (r1, r2)) ∧ Aside0 (kq ≤ k) ∧ Aside0 (Kd.R Kd.string 9 w' w.heap.size (fun _ => True) v124 t123) ∧ Aside0 (Below w.heap.size w w'))
  case atStart => exact ⟨(0), (0), (by first | rfl | (simp; done) | (simp [*]; done)), (by first | rfl | (simp; done) | (simp [*]; done)), H', ⟨Nat.le_refl _⟩, ⟨by (with_reducible repeat (first | apply Kd.R_alloc | apply Kd.R_drewN | apply Kd.R_drew)); exact HO125.out⟩, ⟨by repeat (first | (with_reducible first | exact HB.out | apply below_alloc | apply pw_below_drewN | apply below_drew1) | exact HB.out)⟩⟩
  case round =>
    clear H'
    try clear p2
    obtain ⟨x5_1, x6_1, rfl, rfl, HA, HK1, HO_4, HB⟩ := hrel
    cases gk with
    | zero => exact absurd HA.out (by simp [spec_l01ReadAmount.l0])
    | succ k1 =>
      have H := HA.out
      clear HA
      simp only [spec_l01ReadAmount.l0] at H
      by_cases c4 : x6_1 < (t123.length : Int)
      · rw [if_pos c4] at H
        have c4b0 : decide (x6_1 < (t123.length : Int)) = true := decide_eq_true c4
        clear c4
        by_cases c5 : 0 ≤ x6_1
        · rw [if_pos c5] at H
          have c5b0 : decide (0 ≤ x6_1) = true := decide_eq_true c5
          clear c5
          by_cases c6 : ((rdOf ByteArray.empty t123 x6_1).size : Int) < 2
          · rw [if_pos c6] at H
            have c6b0 : decide (((rdOf ByteArray.empty t123 x6_1).size : Int) < 2) = true := decide_eq_true c6
            have c6b1 : decide ((rdOf ByteArray.empty t123 x6_1).size < 2) = true := decide_eq_true (by omega)
            clear c6
            simp only [Option.some.injEq, Prod.mk.injEq] at H
            obtain ⟨rfl, rfl⟩ := H
            obtain ⟨Ao7, co7, eo7⟩ := Kd.R_slice HO_4.out
            subst eo7
            have p128 : 0 ≤ (x6_1 : Int) := of_decide_eq_true (by first | (with_reducible assumption) | assumption)
            have q128 : x6_1 < (t123.length : Int) := of_decide_eq_true (by first | (with_reducible assumption) | assumption)
            obtain ⟨ad128, e128, hx128_0⟩ := Kd.at_string (Kd.R_reads' HO_4.out).2.2 x6_1 p128 q128
            cases e128
            replace p128 := eq_true p128
            replace q128 := eq_true q128
            go_wp2
            go_ret2
            exact ⟨by first | rfl | (simp [errW_none, errW_some] <;> rfl) | (simp [*, errW_none, errW_some] <;> rfl), by repeat (first | (with_reducible first | exact HB.out | apply below_alloc | apply pw_below_drewN | apply below_drew1) | exact HB.out)⟩
          · rw [if_neg c6] at H
            have c6b0 : decide (((rdOf ByteArray.empty t123 x6_1).size : Int) < 2) = false := decide_eq_false c6
            have c6b1 : decide ((rdOf ByteArray.empty t123 x6_1).size < 2) = false := decide_eq_false (by omega)
            clear c6
            obtain ⟨ji8, hji8⟩ : ∃ j_ : Int, (wrap64 (((rdOf ByteArray.empty t123 x6_1).size : Int) - 1)) = j_ := ⟨_, rfl⟩
            replace H : (if 0 ≤ (ji8) then (if (ji8) ≤ ((rdOf ByteArray.empty t123 x6_1).size : Int) then ((spec_l01Number.f k1 ((rdOf ByteArray.empty t123 x6_1).extract 0 ((ji8) : Int).toNat)).bind fun bt130 => (if bt130.2 = true then (spec_l01ReadAmount.j1 k1 a0 t123 x5_1 x6_1 ((rdOf ByteArray.empty t123 x6_1).size : Int) bt130.1 (decide (bt130.1 > 100000000))) else (spec_l01ReadAmount.j1 k1 a0 t123 x5_1 x6_1 ((rdOf ByteArray.empty t123 x6_1).size : Int) bt130.1 true))) else (none)) else (none)) = some (r1, r2) := by first | (rw [hji8] at H; exact H) | (simp only [hji8] at H ⊢; exact H)
            have hji8w : (IntKind.i64.wrap (((rdOf ByteArray.empty t123 x6_1).size : Int) - 1)) = ji8 := (i64_w _).trans hji8
            by_cases c9 : 0 ≤ (ji8)
            · rw [if_pos c9] at H
              have c9b0 := eq_true c9
              have c9b1 : decide (0 ≤ (ji8)) = true := decide_eq_true c9
              clear c9
              by_cases c10 : (ji8) ≤ ((rdOf ByteArray.empty t123 x6_1).size : Int)
              · rw [if_pos c10] at H
                have c10b0 := eq_true c10
                have c10b1 : decide ((ji8) ≤ ((rdOf ByteArray.empty t123 x6_1).size : Int)) = true := decide_eq_true c10
                clear c10
                replace H := Option.bind_eq_some_iff.mp H
                obtain ⟨⟨t130, t131⟩, A110, H⟩ := H
                replace H : (if t131 = true then (spec_l01ReadAmount.j1 k1 a0 t123 x5_1 x6_1 ((rdOf ByteArray.empty t123 x6_1).size : Int) t130 (decide (t130 > 100000000))) else (spec_l01ReadAmount.j1 k1 a0 t123 x5_1 x6_1 ((rdOf ByteArray.empty t123 x6_1).size : Int) t130 true)) = some (r1, r2) := H
                have A11 := Aside0.mk A110
                clear A110
                have HC12 := Aside0.mk H
                clear H
                obtain ⟨Ao13, co13, eo13⟩ := Kd.R_slice HO_4.out
                subst eo13
                have p128 : 0 ≤ (x6_1 : Int) := of_decide_eq_true (by first | (with_reducible assumption) | assumption)
                have q128 : x6_1 < (t123.length : Int) := of_decide_eq_true (by first | (with_reducible assumption) | assumption)
                obtain ⟨ad128, e128, hx128_0⟩ := Kd.at_string (Kd.R_reads' HO_4.out).2.2 x6_1 p128 q128
                cases e128
                replace p128 := eq_true p128
                replace q128 := eq_true q128
                have p129 : 0 ≤ (x6_1 : Int) := of_decide_eq_true (by first | (with_reducible assumption) | assumption)
                have q129 : x6_1 < (t123.length : Int) := of_decide_eq_true (by first | (with_reducible assumption) | assumption)
                obtain ⟨ad129, e129, hx129_0⟩ := Kd.at_string (Kd.R_reads' HO_4.out).2.2 x6_1 p129 q129
                obtain rfl : ad128 = ad129 := (by injection e129)
                replace p129 := eq_true p129
                replace q129 := eq_true q129
                go_upto_region 10 with (first | ((with_reducible refine gate_callee (f := 64) rfl ?_); refine goesL_ (some 33) rfl rfl Tryd.func64 (by kernel_rfl) rfl #[.string ((rdOf ByteArray.empty t123 x6_1).extract 0 ((ji8) : Int).toNat)] rfl (by (try simp only [List.map_toArray, List.map_cons, List.map_nil]); first | done | (simp only [hji8]; rfl) | (go_simp; done) | rfl | (simp only [List.length_drop, List.length_take]; rfl)) ?_; (with_reducible refine (spec_l01Number.calls k1 ((rdOf ByteArray.empty t123 x6_1).extract 0 ((ji8) : Int).toNat) t130 t131 _ A11.out).mono ?_); rintro e w' ⟨rfl, ⟨nd, rfl⟩⟩; refine ⟨_, rfl, ?_⟩))
                (try simp only [Act.put, List.setIfInBounds_toArray, List.set_cons_zero, List.set_cons_succ])
                go_cut [41] (fun v41 wc => ∃ (kq : Nat) (x41_11 : Bool), v41 = .bool x41_11 ∧ Aside0 (spec_l01ReadAmount.j1 kq a0 t123 x5_1 x6_1 ((rdOf ByteArray.empty t123 x6_1).size : Int) t130 x41_11 = some (r1, r2)) ∧ Aside0 (kq ≤ k1) ∧ Aside0 (Kd.R Kd.string 9 wc w.heap.size (fun _ => True) (.slice (some ad128) t123.length co13) t123) ∧ Aside0 (Below w.heap.size w wc))
                case first =>
                  have H := HC12.out
                  clear HC12
                  by_cases c14 : t131 = true
                  · subst c14
                    have H1 : (spec_l01ReadAmount.j1 k1 a0 t123 x5_1 x6_1 ((rdOf ByteArray.empty t123 x6_1).size : Int) t130 (decide (t130 > 100000000))) = some (r1, r2) := by rw [if_pos rfl] at H; exact H
                    clear H
                    have H := H1
                    clear H1
                    have H' := Aside0.mk H
                    clear H
                    go_wp2
                    go_meet
                    case rel => exact ⟨_, (decide (t130 > 100000000)), (by first | rfl | (simp; done) | (simp [*]; done)), H', ⟨by have := HK1.out; first | omega | exact Nat.le_refl _⟩, ⟨by (with_reducible repeat (first | apply Kd.R_alloc | apply Kd.R_drewN | apply Kd.R_drew)); exact HO_4.out⟩, ⟨by repeat (first | (with_reducible first | exact HB.out | apply below_alloc | apply pw_below_drewN | apply below_drew1) | exact HB.out)⟩⟩
                  · replace c14 := Bool.eq_false_iff.mpr c14
                    subst c14
                    have H1 : (spec_l01ReadAmount.j1 k1 a0 t123 x5_1 x6_1 ((rdOf ByteArray.empty t123 x6_1).size : Int) t130 true) = some (r1, r2) := by rw [if_neg (show ¬ (false = true) by decide)] at H; exact H
                    clear H
                    have H := H1
                    clear H1
                    have H' := Aside0.mk H
                    clear H
                    go_wp2
                    go_meet
                    case rel => exact ⟨_, (true), (by first | rfl | (simp; done) | (simp [*]; done)), H', ⟨by have := HK1.out; first | omega | exact Nat.le_refl _⟩, ⟨by (with_reducible repeat (first | apply Kd.R_alloc | apply Kd.R_drewN | apply Kd.R_drew)); exact HO_4.out⟩, ⟨by repeat (first | (with_reducible first | exact HB.out | apply below_alloc | apply pw_below_drewN | apply below_drew1) | exact HB.out)⟩⟩
                case rest =>
                  clear HC12
                  try clear c1
                  try clear p1
                  try clear q1
                  try clear hx1
                  try clear p2
                  try clear c4
                  try clear c4b0
                  try clear c5
                  try clear c5b0
                  try clear c6
                  try clear c6b0
                  try clear c6b1
                  try clear p6
                  try clear c9
                  try clear c9b0
                  try clear c9b1
                  try clear c10
                  try clear c10b0
                  try clear c10b1
                  try clear p12
                  try clear q12
                  try clear hx12
                  try clear c14
                  try clear hx128_0
                  try clear hx129_0
                  try clear p128
                  try clear p129
                  try clear p2
                  try clear q128
                  try clear q129
                  obtain ⟨kq, x41_11, rfl, HA, HJ11, HO_4, HB⟩ := hcut
                  cases kq with
                  | zero => exact absurd HA.out (by simp [spec_l01ReadAmount.j1])
                  | succ kj11 =>
                    have H := HA.out
                    clear HA
                    simp only [spec_l01ReadAmount.j1] at H
                    by_cases c15 : x41_11 = true
                    · subst c15
                      have H1 : (some (0, false)) = some (r1, r2) := by rw [if_pos rfl] at H; exact H
                      clear H
                      have H := H1
                      clear H1
                      simp only [Option.some.injEq, Prod.mk.injEq] at H
                      obtain ⟨rfl, rfl⟩ := H
                      go_wp2
                      go_ret2
                      exact ⟨by first | rfl | (simp [errW_none, errW_some] <;> rfl) | (simp only [← hji8]; first | rfl | (simp [errW_none, errW_some] <;> rfl)) | (simp [*, errW_none, errW_some] <;> rfl), by repeat (first | (with_reducible first | exact HB.out | apply below_alloc | apply pw_below_drewN | apply below_drew1) | exact HB.out)⟩
                    · replace c15 := Bool.eq_false_iff.mpr c15
                      subst c15
                      have H1 : (if 0 ≤ x6_1 then (if x6_1 < (t123.length : Int) then (if 0 ≤ (wrap64 (((rdOf ByteArray.empty t123 x6_1).size : Int) - 1)) then (if (wrap64 (((rdOf ByteArray.empty t123 x6_1).size : Int) - 1)) < ((rdOf ByteArray.empty t123 x6_1).size : Int) then (if (bt (rdOf ByteArray.empty t123 x6_1) (wrap64 (((rdOf ByteArray.empty t123 x6_1).size : Int) - 1))) = 108 then (spec_l01ReadAmount.l0 kj11 a0 t123 (wrap64 (x5_1 + (wrap64 (240 * t130)))) (wrap64 (x6_1 + 1))) else (if (bt (rdOf ByteArray.empty t123 x6_1) (wrap64 (((rdOf ByteArray.empty t123 x6_1).size : Int) - 1))) = 115 then (spec_l01ReadAmount.l0 kj11 a0 t123 (wrap64 (x5_1 + (wrap64 (12 * t130)))) (wrap64 (x6_1 + 1))) else (if (bt (rdOf ByteArray.empty t123 x6_1) (wrap64 (((rdOf ByteArray.empty t123 x6_1).size : Int) - 1))) = 100 then (spec_l01ReadAmount.l0 kj11 a0 t123 (wrap64 (x5_1 + t130)) (wrap64 (x6_1 + 1))) else (some (0, false))))) else (none)) else (none)) else (none)) else (none)) = some (r1, r2) := by rw [if_neg (show ¬ (false = true) by decide)] at H; exact H
                      clear H
                      have H := H1
                      clear H1
                      by_cases c16 : 0 ≤ x6_1
                      · rw [if_pos c16] at H
                        have c16b0 : decide (0 ≤ x6_1) = true := decide_eq_true c16
                        clear c16
                        by_cases c17 : x6_1 < (t123.length : Int)
                        · rw [if_pos c17] at H
                          have c17b0 : decide (x6_1 < (t123.length : Int)) = true := decide_eq_true c17
                          clear c17
                          obtain ⟨ji18, hji18⟩ : ∃ j_ : Int, (wrap64 (((rdOf ByteArray.empty t123 x6_1).size : Int) - 1)) = j_ := ⟨_, rfl⟩
                          replace H : (if 0 ≤ (ji18) then (if (ji18) < ((rdOf ByteArray.empty t123 x6_1).size : Int) then (if (bt (rdOf ByteArray.empty t123 x6_1) (ji18)) = 108 then (spec_l01ReadAmount.l0 kj11 a0 t123 (wrap64 (x5_1 + (wrap64 (240 * t130)))) (wrap64 (x6_1 + 1))) else (if (bt (rdOf ByteArray.empty t123 x6_1) (ji18)) = 115 then (spec_l01ReadAmount.l0 kj11 a0 t123 (wrap64 (x5_1 + (wrap64 (12 * t130)))) (wrap64 (x6_1 + 1))) else (if (bt (rdOf ByteArray.empty t123 x6_1) (ji18)) = 100 then (spec_l01ReadAmount.l0 kj11 a0 t123 (wrap64 (x5_1 + t130)) (wrap64 (x6_1 + 1))) else (some (0, false))))) else (none)) else (none)) = some (r1, r2) := by first | (rw [hji18] at H; exact H) | (simp only [hji18] at H ⊢; exact H)
                          have hji18w : (IntKind.i64.wrap (((rdOf ByteArray.empty t123 x6_1).size : Int) - 1)) = ji18 := (i64_w _).trans hji18
                          try replace hji8w := hji8w.trans (hji8.symm.trans hji18)
                          by_cases c19 : 0 ≤ (ji18)
                          · rw [if_pos c19] at H
                            have c19b0 : decide (0 ≤ (ji18)) = true := decide_eq_true c19
                            clear c19
                            by_cases c20 : (ji18) < ((rdOf ByteArray.empty t123 x6_1).size : Int)
                            · rw [if_pos c20] at H
                              have c20b0 : decide ((ji18) < ((rdOf ByteArray.empty t123 x6_1).size : Int)) = true := decide_eq_true c20
                              clear c20
                              by_cases c22 : (bt (rdOf ByteArray.empty t123 x6_1) (ji18)) = 108
                              · rw [if_pos c22] at H
                                have c22b0 : ((bt (rdOf ByteArray.empty t123 x6_1) (ji18)) == 108) = true := beq_iff_eq.mpr c22
                                have c22b1 : ((bt (rdOf ByteArray.empty t123 x6_1) (ji18)) != 108) = false := bne_eq_false_iff_eq.mpr c22
                                clear c22
                                have H' := Aside0.mk H
                                clear H
                                have p132 : 0 ≤ (x6_1 : Int) := of_decide_eq_true (by first | (with_reducible assumption) | assumption)
                                have q132 : x6_1 < (t123.length : Int) := of_decide_eq_true (by first | (with_reducible assumption) | assumption)
                                obtain ⟨ad132, e132, hx132_0⟩ := Kd.at_string (Kd.R_reads' HO_4.out).2.2 x6_1 p132 q132
                                obtain rfl : ad128 = ad132 := (by injection e132)
                                replace p132 := eq_true p132
                                replace q132 := eq_true q132
                                have p21 : 0 ≤ ((ji18) : Int) := of_decide_eq_true (by first | (with_reducible assumption) | assumption)
                                have q21 : (ji18) < ((rdOf ByteArray.empty t123 x6_1).size : Int) := of_decide_eq_true (by first | (with_reducible assumption) | assumption)
                                have hx21 := bt_at (rdOf ByteArray.empty t123 x6_1) (ji18)
                                replace p21 := eq_true p21
                                replace q21 := eq_true q21
                                go_wp2
                                go_roundg kj11
                                case measure => have := HK1.out; have := HJ11.out; omega
                                case rel => exact ⟨(wrap64 (x5_1 + (wrap64 (240 * t130)))), (wrap64 (x6_1 + 1)), (by first | rfl | (simp; done) | (simp [*]; done)), (by first | rfl | (simp; done) | (simp [*]; done)), H', ⟨by have := HK1.out; have := HJ11.out; omega⟩, ⟨by (with_reducible repeat (first | apply Kd.R_alloc | apply Kd.R_drewN | apply Kd.R_drew)); exact HO_4.out⟩, ⟨by repeat (first | (with_reducible first | exact HB.out | apply below_alloc | apply pw_below_drewN | apply below_drew1) | exact HB.out)⟩⟩
                              · rw [if_neg c22] at H
                                have c22b0 : ((bt (rdOf ByteArray.empty t123 x6_1) (ji18)) == 108) = false := beq_eq_false_iff_ne.mpr c22
                                have c22b1 : ((bt (rdOf ByteArray.empty t123 x6_1) (ji18)) != 108) = true := bne_iff_ne.mpr c22
                                by_cases c23 : (bt (rdOf ByteArray.empty t123 x6_1) (ji18)) = 115
                                · rw [if_pos c23] at H
                                  have c23b0 : ((bt (rdOf ByteArray.empty t123 x6_1) (ji18)) == 115) = true := beq_iff_eq.mpr c23
                                  have c23b1 : ((bt (rdOf ByteArray.empty t123 x6_1) (ji18)) != 115) = false := bne_eq_false_iff_eq.mpr c23
                                  clear c23
                                  have H' := Aside0.mk H
                                  clear H
                                  have p132 : 0 ≤ (x6_1 : Int) := of_decide_eq_true (by first | (with_reducible assumption) | assumption)
                                  have q132 : x6_1 < (t123.length : Int) := of_decide_eq_true (by first | (with_reducible assumption) | assumption)
                                  obtain ⟨ad132, e132, hx132_0⟩ := Kd.at_string (Kd.R_reads' HO_4.out).2.2 x6_1 p132 q132
                                  obtain rfl : ad128 = ad132 := (by injection e132)
                                  replace p132 := eq_true p132
                                  replace q132 := eq_true q132
                                  have p21 : 0 ≤ ((ji18) : Int) := of_decide_eq_true (by first | (with_reducible assumption) | assumption)
                                  have q21 : (ji18) < ((rdOf ByteArray.empty t123 x6_1).size : Int) := of_decide_eq_true (by first | (with_reducible assumption) | assumption)
                                  have hx21 := bt_at (rdOf ByteArray.empty t123 x6_1) (ji18)
                                  replace p21 := eq_true p21
                                  replace q21 := eq_true q21
                                  go_wp2
                                  go_roundg kj11
                                  case measure => have := HK1.out; have := HJ11.out; omega
                                  case rel => exact ⟨(wrap64 (x5_1 + (wrap64 (12 * t130)))), (wrap64 (x6_1 + 1)), (by first | rfl | (simp; done) | (simp [*]; done)), (by first | rfl | (simp; done) | (simp [*]; done)), H', ⟨by have := HK1.out; have := HJ11.out; omega⟩, ⟨by (with_reducible repeat (first | apply Kd.R_alloc | apply Kd.R_drewN | apply Kd.R_drew)); exact HO_4.out⟩, ⟨by repeat (first | (with_reducible first | exact HB.out | apply below_alloc | apply pw_below_drewN | apply below_drew1) | exact HB.out)⟩⟩
                                · rw [if_neg c23] at H
                                  have c23b0 : ((bt (rdOf ByteArray.empty t123 x6_1) (ji18)) == 115) = false := beq_eq_false_iff_ne.mpr c23
                                  have c23b1 : ((bt (rdOf ByteArray.empty t123 x6_1) (ji18)) != 115) = true := bne_iff_ne.mpr c23
                                  by_cases c24 : (bt (rdOf ByteArray.empty t123 x6_1) (ji18)) = 100
                                  · rw [if_pos c24] at H
                                    have c24b0 : ((bt (rdOf ByteArray.empty t123 x6_1) (ji18)) == 100) = true := beq_iff_eq.mpr c24
                                    have c24b1 : ((bt (rdOf ByteArray.empty t123 x6_1) (ji18)) != 100) = false := bne_eq_false_iff_eq.mpr c24
                                    clear c24
                                    have H' := Aside0.mk H
                                    clear H
                                    have p132 : 0 ≤ (x6_1 : Int) := of_decide_eq_true (by first | (with_reducible assumption) | assumption)
                                    have q132 : x6_1 < (t123.length : Int) := of_decide_eq_true (by first | (with_reducible assumption) | assumption)
                                    obtain ⟨ad132, e132, hx132_0⟩ := Kd.at_string (Kd.R_reads' HO_4.out).2.2 x6_1 p132 q132
                                    obtain rfl : ad128 = ad132 := (by injection e132)
                                    replace p132 := eq_true p132
                                    replace q132 := eq_true q132
                                    have p21 : 0 ≤ ((ji18) : Int) := of_decide_eq_true (by first | (with_reducible assumption) | assumption)
                                    have q21 : (ji18) < ((rdOf ByteArray.empty t123 x6_1).size : Int) := of_decide_eq_true (by first | (with_reducible assumption) | assumption)
                                    have hx21 := bt_at (rdOf ByteArray.empty t123 x6_1) (ji18)
                                    replace p21 := eq_true p21
                                    replace q21 := eq_true q21
                                    go_wp2
                                    go_roundg kj11
                                    case measure => have := HK1.out; have := HJ11.out; omega
                                    case rel => exact ⟨(wrap64 (x5_1 + t130)), (wrap64 (x6_1 + 1)), (by first | rfl | (simp; done) | (simp [*]; done)), (by first | rfl | (simp; done) | (simp [*]; done)), H', ⟨by have := HK1.out; have := HJ11.out; omega⟩, ⟨by (with_reducible repeat (first | apply Kd.R_alloc | apply Kd.R_drewN | apply Kd.R_drew)); exact HO_4.out⟩, ⟨by repeat (first | (with_reducible first | exact HB.out | apply below_alloc | apply pw_below_drewN | apply below_drew1) | exact HB.out)⟩⟩
                                  · rw [if_neg c24] at H
                                    have c24b0 : ((bt (rdOf ByteArray.empty t123 x6_1) (ji18)) == 100) = false := beq_eq_false_iff_ne.mpr c24
                                    have c24b1 : ((bt (rdOf ByteArray.empty t123 x6_1) (ji18)) != 100) = true := bne_iff_ne.mpr c24
                                    simp only [Option.some.injEq, Prod.mk.injEq] at H
                                    obtain ⟨rfl, rfl⟩ := H
                                    have p132 : 0 ≤ (x6_1 : Int) := of_decide_eq_true (by first | (with_reducible assumption) | assumption)
                                    have q132 : x6_1 < (t123.length : Int) := of_decide_eq_true (by first | (with_reducible assumption) | assumption)
                                    obtain ⟨ad132, e132, hx132_0⟩ := Kd.at_string (Kd.R_reads' HO_4.out).2.2 x6_1 p132 q132
                                    obtain rfl : ad128 = ad132 := (by injection e132)
                                    replace p132 := eq_true p132
                                    replace q132 := eq_true q132
                                    have p21 : 0 ≤ ((ji18) : Int) := of_decide_eq_true (by first | (with_reducible assumption) | assumption)
                                    have q21 : (ji18) < ((rdOf ByteArray.empty t123 x6_1).size : Int) := of_decide_eq_true (by first | (with_reducible assumption) | assumption)
                                    have hx21 := bt_at (rdOf ByteArray.empty t123 x6_1) (ji18)
                                    replace p21 := eq_true p21
                                    replace q21 := eq_true q21
                                    go_wp2
                                    go_ret2
                                    exact ⟨by first | rfl | (simp [errW_none, errW_some] <;> rfl) | (simp only [← hji8, ← hji18]; first | rfl | (simp [errW_none, errW_some] <;> rfl)) | (simp [*, errW_none, errW_some] <;> rfl), by repeat (first | (with_reducible first | exact HB.out | apply below_alloc | apply pw_below_drewN | apply below_drew1) | exact HB.out)⟩
                            · rw [if_neg c20] at H
                              exact absurd H (by simp)
                          · rw [if_neg c19] at H
                            exact absurd H (by simp)
                        · rw [if_neg c17] at H
                          exact absurd H (by simp)
                      · rw [if_neg c16] at H
                        exact absurd H (by simp)
              · rw [if_neg c10] at H
                exact absurd H (by simp)
            · rw [if_neg c9] at H
              exact absurd H (by simp)
        · rw [if_neg c5] at H
          exact absurd H (by simp)
      · rw [if_neg c4] at H
        have c4b0 : decide (x6_1 < (t123.length : Int)) = false := decide_eq_false c4
        clear c4
        replace H := Option.bind_eq_some_iff.mp H
        obtain ⟨t126, A250, H⟩ := H
        replace H : (if t126 = true then ((spec_l01AmountText.f k1 x5_1).bind fun t127 => (some (x5_1, (t127.toList == a0.toList)))) else (some (x5_1, false))) = some (r1, r2) := H
        have A25 := Aside0.mk A250
        clear A250
        by_cases c26 : t126 = true
        · subst c26
          have H1 : ((spec_l01AmountText.f k1 x5_1).bind fun t127 => (some (x5_1, (t127.toList == a0.toList)))) = some (r1, r2) := by rw [if_pos rfl] at H; exact H
          clear H
          have H := H1
          clear H1
          replace H := Option.bind_eq_some_iff.mp H
          obtain ⟨t127, A270, H⟩ := H
          replace H : (some (x5_1, (t127.toList == a0.toList))) = some (r1, r2) := H
          have A27 := Aside0.mk A270
          clear A270
          simp only [Option.some.injEq, Prod.mk.injEq] at H
          obtain ⟨rfl, rfl⟩ := H
          obtain ⟨Ao28, co28, eo28⟩ := Kd.R_slice HO_4.out
          subst eo28
          go_wp2_with (first | ((with_reducible refine gate_callee (f := 84) rfl ?_); refine goesL_ (some 68) rfl rfl Tryd.func84 (by kernel_rfl) rfl #[.int .i64 x5_1] rfl (by (try simp only [List.map_toArray, List.map_cons, List.map_nil]); first | done | (go_simp; done) | rfl | (simp only [List.length_drop, List.length_take]; rfl)) ?_; (with_reducible refine (spec_l01Amount.calls x5_1 true _ A25.out).mono ?_); rintro e w' ⟨rfl, ⟨nd, rfl⟩⟩; refine ⟨_, rfl, ?_⟩) | (go_at_call 100; (with_reducible refine (spec_l01AmountText.calls k1 x5_1 t127 _ A27.out).mono ?_); rintro e w29 ⟨rfl, hb⟩; have n0_ := Aside0.mk (Kd.R_below (by (with_reducible repeat (first | apply Kd.R_alloc | apply Kd.R_drewN | apply Kd.R_drew)); exact HO_4.out) hb); have n1_ := Aside0.mk (below_step (by repeat (first | (with_reducible first | exact HB.out | apply below_alloc | apply pw_below_drewN | apply below_drew1) | exact HB.out)) hb); clear HO_4; clear HB; have HO_4 := n0_; have HB := n1_; clear n0_ n1_; (try clear hb); (try clear hb2); (try clear hk); (try clear hi)))
          go_ret2
          exact ⟨by first | rfl | (simp [errW_none, errW_some] <;> rfl) | (simp [*, errW_none, errW_some] <;> rfl), by repeat (first | (with_reducible first | exact HB.out | apply below_alloc | apply pw_below_drewN | apply below_drew1) | exact HB.out)⟩
        · replace c26 := Bool.eq_false_iff.mpr c26
          subst c26
          have H1 : (some (x5_1, false)) = some (r1, r2) := by rw [if_neg (show ¬ (false = true) by decide)] at H; exact H
          clear H
          have H := H1
          clear H1
          simp only [Option.some.injEq, Prod.mk.injEq] at H
          obtain ⟨rfl, rfl⟩ := H
          obtain ⟨Ao30, co30, eo30⟩ := Kd.R_slice HO_4.out
          subst eo30
          go_wp2_with (first | ((with_reducible refine gate_callee (f := 84) rfl ?_); refine goesL_ (some 68) rfl rfl Tryd.func84 (by kernel_rfl) rfl #[.int .i64 x5_1] rfl (by (try simp only [List.map_toArray, List.map_cons, List.map_nil]); first | done | (go_simp; done) | rfl | (simp only [List.length_drop, List.length_take]; rfl)) ?_; (with_reducible refine (spec_l01Amount.calls x5_1 false _ A25.out).mono ?_); rintro e w' ⟨rfl, ⟨nd, rfl⟩⟩; refine ⟨_, rfl, ?_⟩))
          go_ret2
          exact ⟨by first | rfl | (simp [errW_none, errW_some] <;> rfl) | (simp [*, errW_none, errW_some] <;> rfl), by repeat (first | (with_reducible first | exact HB.out | apply below_alloc | apply pw_below_drewN | apply below_drew1) | exact HB.out)⟩

/-! ### spec_ReadAmount: function 10 -/
def spec_ReadAmount.f (k : Nat) (a0 : ByteArray) : Option (Int × Int) := (spec_l01ReadAmount.f k a0).bind fun bt133 => (if bt133.2 = true then (some (bt133.1, 0)) else (some (0, 5)))
theorem spec_ReadAmount.mono : ∀ a0 k, LeO (spec_ReadAmount.f k a0) (spec_ReadAmount.f (k + 1) a0) := by
  intro a0 k
  unfold spec_ReadAmount.f
  repeat' first
      | (with_reducible exact spec_l01ReadAmount.mono _ _)
      | (with_reducible exact LeO.refl _)
      | (with_reducible exact LeO.none _)
      | (with_reducible refine LeO.ite ?_ ?_)
      | (with_reducible refine LeO.bind ?_ (fun _ => ?_))
      | exact spec_l01ReadAmount.mono _ _
      | exact LeO.none _
      | refine LeO.ite ?_ ?_
      | refine LeO.bind ?_ (fun _ => ?_)
set_option maxHeartbeats 8000000 in
set_option maxRecDepth 100000 in
theorem spec_ReadAmount.calls (k : Nat) (a0 : ByteArray) (r1 : Int) (r2 : Int) (w : World) (h : spec_ReadAmount.f k a0 = some (r1, r2)) :
    Calls Tryd.prog 10 #[.string a0] w fun e w' => e = .returned (.tuple #[.int .i64 r1, .int .i64 r2]) ∧ Below w.heap.size w w' := by
  have HB := Aside0.mk (Below.refl w.heap.size w)
  have H : ((spec_l01ReadAmount.f k a0).bind fun bt133 => (if bt133.2 = true then (some (bt133.1, 0)) else (some (0, 5)))) = some (r1, r2) := h
  clear h
  replace H := Option.bind_eq_some_iff.mp H
  obtain ⟨⟨t133, t134⟩, A20, H⟩ := H
  replace H : (if t134 = true then (some (t133, 0)) else (some (0, 5))) = some (r1, r2) := H
  have A2 := Aside0.mk A20
  clear A20
  by_cases c3 : t134 = true
  · subst c3
    have H1 : (some (t133, 0)) = some (r1, r2) := by rw [if_pos rfl] at H; exact H
    clear H
    have H := H1
    clear H1
    simp only [Option.some.injEq, Prod.mk.injEq] at H
    obtain ⟨rfl, rfl⟩ := H
    go_enter Tryd.func10, Tryd.ntmps10
    go_wp2_with (first | ((with_reducible refine gate_callee (f := 53) rfl ?_); refine goesL_ (some 8) rfl rfl Tryd.func53 (by kernel_rfl) rfl #[.string a0] rfl (by (try simp only [List.map_toArray, List.map_cons, List.map_nil]); first | done | (go_simp; done) | rfl | (simp only [List.length_drop, List.length_take]; rfl)) ?_; (with_reducible refine (spec_l01ReadAmount.calls k a0 t133 true _ A2.out).mono ?_); rintro e w4 ⟨rfl, hb⟩; refine ⟨_, rfl, ?_⟩; have n0_ := Aside0.mk (below_step (by repeat (first | (with_reducible first | exact HB.out | apply below_alloc | apply pw_below_drewN | apply below_drew1) | exact HB.out)) hb); clear HB; have HB := n0_; clear n0_; (try clear hb); (try clear hb2); (try clear hk); (try clear hi)))
    go_ret2
    exact ⟨by first | rfl | (simp [errW_none, errW_some] <;> rfl) | (simp [*, errW_none, errW_some] <;> rfl), by repeat (first | (with_reducible first | exact HB.out | apply below_alloc | apply pw_below_drewN | apply below_drew1) | exact HB.out)⟩
  · replace c3 := Bool.eq_false_iff.mpr c3
    subst c3
    have H1 : (some (0, 5)) = some (r1, r2) := by rw [if_neg (show ¬ (false = true) by decide)] at H; exact H
    clear H
    have H := H1
    clear H1
    simp only [Option.some.injEq, Prod.mk.injEq] at H
    obtain ⟨rfl, rfl⟩ := H
    go_enter Tryd.func10, Tryd.ntmps10
    go_wp2_with (first | ((with_reducible refine gate_callee (f := 53) rfl ?_); refine goesL_ (some 8) rfl rfl Tryd.func53 (by kernel_rfl) rfl #[.string a0] rfl (by (try simp only [List.map_toArray, List.map_cons, List.map_nil]); first | done | (go_simp; done) | rfl | (simp only [List.length_drop, List.length_take]; rfl)) ?_; (with_reducible refine (spec_l01ReadAmount.calls k a0 t133 false _ A2.out).mono ?_); rintro e w5 ⟨rfl, hb⟩; refine ⟨_, rfl, ?_⟩; have n0_ := Aside0.mk (below_step (by repeat (first | (with_reducible first | exact HB.out | apply below_alloc | apply pw_below_drewN | apply below_drew1) | exact HB.out)) hb); clear HB; have HB := n0_; clear n0_; (try clear hb); (try clear hb2); (try clear hk); (try clear hi)))
    go_ret2
    exact ⟨by first | rfl | (simp [errW_none, errW_some] <;> rfl) | (simp [*, errW_none, errW_some] <;> rfl), by repeat (first | (with_reducible first | exact HB.out | apply below_alloc | apply pw_below_drewN | apply below_drew1) | exact HB.out)⟩

/-! ### strconv_FormatInt: function 106 -/
def strconv_FormatInt.f (a0 : Int) (a1 : Int) : Option (ByteArray) := if a1 = 10 ∧ -9223372036854775808 ≤ a0 ∧ a0 ≤ 9223372036854775807 then some ⟨(Lib.itoa a0).toArray⟩ else none
set_option maxHeartbeats 8000000 in
set_option maxRecDepth 100000 in
theorem strconv_FormatInt.calls (a0 : Int) (a1 : Int) (r : ByteArray) (w : World) (hT : Tt.TT w) (h : strconv_FormatInt.f a0 a1 = some r) :
    Calls Tryd.prog 106 #[.int .i64 a0, .int .i64 a1] w fun e w' => e = .returned (.string r) ∧ Below w.heap.size w w' := by
  unfold strconv_FormatInt.f at h
  split at h
  · rename_i hc
    injection h with h
    subst h
    exact (by obtain ⟨rfl, h0, h1⟩ := hc; exact Tt.fmt_call 106 rfl a0 w hT h0 h1)
  · cases h

/-! ### impl_decimal: function 61 -/
def impl_decimal.f (a0 : Int) : Option (ByteArray) := (strconv_FormatInt.f a0 10).bind fun t135 => (some t135)
set_option maxHeartbeats 8000000 in
set_option maxRecDepth 100000 in
theorem impl_decimal.calls (a0 : Int) (r : ByteArray) (w : World) (hT : Tt.TT w) (h : impl_decimal.f a0 = some r) :
    Calls Tryd.prog 61 #[.int .i64 a0] w fun e w' => e = .returned (.string r) ∧ Below w.heap.size w w' := by
  have HB := Aside0.mk (Below.refl w.heap.size w)
  have H : ((strconv_FormatInt.f a0 10).bind fun t135 => (some t135)) = some r := h
  clear h
  replace H := Option.bind_eq_some_iff.mp H
  obtain ⟨t135, A20, H⟩ := H
  replace H : (some t135) = some r := H
  have A2 := Aside0.mk A20
  clear A20
  obtain rfl := Option.some.inj H
  go_enter Tryd.func61, Tryd.ntmps61
  go_wp2_with (first | ((with_reducible refine gate_callee (f := 106) rfl ?_); refine goesL_ (some 4) rfl rfl Tryd.func106 (by kernel_rfl) rfl #[.int .i64 a0, .int .i64 10] rfl (by (try simp only [List.map_toArray, List.map_cons, List.map_nil]); first | done | (go_simp; done) | rfl | (simp only [List.length_drop, List.length_take]; rfl)) ?_; (with_reducible refine (strconv_FormatInt.calls a0 10 t135 _ ?side1 A2.out).mono ?_); (case side1 => first | exact hT | exact Tt.TT_on hT (by repeat (first | (with_reducible first | exact HB.out | apply below_alloc | apply pw_below_drewN | apply below_drew1) | exact HB.out))); rintro e w3 ⟨rfl, hb⟩; refine ⟨_, rfl, ?_⟩; have n0_ := Aside0.mk (below_step (by repeat (first | (with_reducible first | exact HB.out | apply below_alloc | apply pw_below_drewN | apply below_drew1) | exact HB.out)) hb); clear HB; have HB := n0_; clear n0_; (try clear hb); (try clear hb2); (try clear hk); (try clear hi)))
  go_ret
  exact ⟨by first | rfl | (simp [errW_none, errW_some] <;> rfl) | (simp [*, errW_none, errW_some] <;> rfl), by repeat (first | (with_reducible first | exact HB.out | apply below_alloc | apply pw_below_drewN | apply below_drew1) | exact HB.out)⟩

/-! ### impl_isAmount: function 81 -/
def impl_isAmount.f (a0 : Int) : Option (Bool) := if a0 ≥ 0 then (some (decide (a0 ≤ 100000000))) else (some false)
set_option maxHeartbeats 8000000 in
set_option maxRecDepth 100000 in
theorem impl_isAmount.calls (a0 : Int) (r : Bool) (w : World) (h : impl_isAmount.f a0 = some r) :
    Calls Tryd.prog 81 #[.int .i64 a0] w fun e w' => e = .returned (.bool r) ∧ Drawn0 w w' := by
  have H : (if a0 ≥ 0 then (some (decide (a0 ≤ 100000000))) else (some false)) = some r := h
  clear h
  by_cases c2 : a0 ≥ 0
  · rw [if_pos c2] at H
    have c2b0 : decide (0 ≤ a0) = true := decide_eq_true c2
    clear c2
    obtain rfl := Option.some.inj H
    go_enter Tryd.func81, Tryd.ntmps81
    go_wp2
    go_ret
    exact ⟨by first | rfl | (simp; done) | (simp [*]; done), by repeat (first | exact Drawn0.refl _ | apply Drawn0.step)⟩
  · rw [if_neg c2] at H
    have c2b0 : decide (0 ≤ a0) = false := decide_eq_false c2
    clear c2
    obtain rfl := Option.some.inj H
    go_enter Tryd.func81, Tryd.ntmps81
    go_wp2
    go_ret
    exact ⟨by first | rfl | (simp; done) | (simp [*]; done), by repeat (first | exact Drawn0.refl _ | apply Drawn0.step)⟩

/-! ### strings_Join: function 82 -/
def strings_Join.f (l0 : List ByteArray) (a1 : ByteArray) : Option (ByteArray) := if l0.length ≤ 140737488355328 ∧ (Lib.join (l0.map (·.data.toList)) a1.data.toList).length ≤ 140737488355328 then some ⟨(Lib.join (l0.map (·.data.toList)) a1.data.toList).toArray⟩ else none
set_option maxHeartbeats 8000000 in
set_option maxRecDepth 100000 in
theorem strings_Join.calls (A0 : Option Addr) (c0 : Nat) (l0 : List ByteArray) (a1 : ByteArray) (r : ByteArray) (w : World) (hr0 : Kd.C Kd.string w A0 l0.length l0) (hc0 : l0.length ≤ c0) (h : strings_Join.f l0 a1 = some r) :
    Calls Tryd.prog 82 #[.slice A0 l0.length c0, .string a1] w fun e w' => e = .returned (.string r) ∧ Below w.heap.size w w' := by
  unfold strings_Join.f at h
  split at h
  · rename_i hc
    injection h with h
    subst h
    exact Tt.join_call 82 rfl A0 c0 l0 a1 w hc.1 hc.2 hr0 hc0
  · cases h

end Go.Proofs.YtfjmljgbdejghaaDoor.MReadAmount
