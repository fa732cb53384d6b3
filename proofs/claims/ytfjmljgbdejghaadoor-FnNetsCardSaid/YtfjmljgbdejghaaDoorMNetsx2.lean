-- by a program of this session, for this claim
import Derived.Test.YtfjmljgbdejghaaDoorMNetsx0
namespace Go.Proofs.YtfjmljgbdejghaaDoor.MNets
open Go.RowKit Go.Proofs.YtfjmljgbdejghaaDoorW.PrintWords Go.Proofs.YtfjmljgbdejghaaDoorW.PrintLast Go.Proofs.YtfjmljgbdejghaaDoorW.PrintMore
attribute [local go_sem] max2_int min2_int max_two min_two max_three min_three max_four min_four   -- for this text's walks alone
set_option linter.unusedVariables false
set_option linter.unusedSimpArgs false

/-! ### strconv_FormatInt: function 106 -/
def strconv_FormatInt.f (a0 : Int) (a1 : Int) : Option (ByteArray) := if a1 = 10 ∧ -9223372036854775808 ≤ a0 ∧ a0 ≤ 9223372036854775807 then some ⟨(Lib.itoa a0).toArray⟩ else none
set_option maxHeartbeats 8000000 in
set_option maxRecDepth 100000 in
theorem strconv_FormatInt.calls (a0 : Int) (a1 : Int) (r : ByteArray) (w : World) (hT : Tt.TT w) (h : strconv_FormatInt.f a0 a1 = some r) :
    Calls Tryd.prog 106 #[.int .i64 a0, .int .i64 a1] w fun e w' => e = .returned (.string r) ∧ Below w.heap.size w w' := by
  unfold strconv_FormatInt.f at h; split at h
  ·rename_i hc; injection h with h; subst h; exact (by obtain ⟨rfl, h0, h1⟩ := hc; exact Tt.fmt_call 106 rfl a0 w hT h0 h1)
  ·cases h

/-! ### impl_decimal: function 61 -/
def impl_decimal.f (a0 : Int) : Option (ByteArray) := (strconv_FormatInt.f a0 10).bind fun t101 => (some t101)
set_option maxHeartbeats 8000000 in
set_option maxRecDepth 100000 in
theorem impl_decimal.calls (a0 : Int) (r : ByteArray) (w : World) (hT : Tt.TT w) (h : impl_decimal.f a0 = some r) :
    Calls Tryd.prog 61 #[.int .i64 a0] w fun e w' => e = .returned (.string r) ∧ Below w.heap.size w w' := by
  have HB := Aside0.mk (Below.refl w.heap.size w); have H : ((strconv_FormatInt.f a0 10).bind fun t101 => (some t101)) = some r := h; clear h; replace H := Option.bind_eq_some_iff.mp H; obtain ⟨t101, A20, H⟩ := H; replace H : (some t101) = some r := H; have A2 := Aside0.mk A20; clear A20; obtain rfl := Option.some.inj H; go_enter Tryd.func61, Tryd.ntmps61; go_wp2_with (first | ((with_reducible refine gate_callee (f := 106) rfl ?_); refine goesL_ (some 4) rfl rfl Tryd.func106 z4_ rfl #[.int .i64 a0, .int .i64 10] rfl z1_ ?_; (with_reducible refine (strconv_FormatInt.calls a0 10 t101 _ ?side1 A2.out).mono ?_); (case side1 => first | exact hT | exact Tt.TT_on hT z0_); rintro e w3 ⟨rfl, hb⟩; refine ⟨_, rfl, ?_⟩; have n0_ := Aside0.mk (below_step z0_ hb); clear HB; have HB := n0_; clear n0_; (try clear hb); (try clear hb2); (try clear hk); (try clear hi))); go_ret; exact ⟨z3_, z0_⟩

/-! ### impl_isAmount: function 81 -/
def impl_isAmount.f (a0 : Int) : Option (Bool) := if a0 ≥ 0 then (some (decide (a0 ≤ 100000000))) else (some false)
set_option maxHeartbeats 8000000 in
set_option maxRecDepth 100000 in
theorem impl_isAmount.calls (a0 : Int) (r : Bool) (w : World) (h : impl_isAmount.f a0 = some r) :
    Calls Tryd.prog 81 #[.int .i64 a0] w fun e w' => e = .returned (.bool r) ∧ Drawn0 w w' := by
  have H : (if a0 ≥ 0 then (some (decide (a0 ≤ 100000000))) else (some false)) = some r := h; clear h; by_cases c2 : a0 ≥ 0
  ·rw [if_pos c2] at H; have c2b0 : decide (0 ≤ a0) = true := decide_eq_true c2; clear c2; obtain rfl := Option.some.inj H; go_enter Tryd.func81, Tryd.ntmps81; go_wp2; go_ret; exact ⟨z5_, z10_⟩
  ·rw [if_neg c2] at H; have c2b0 : decide (0 ≤ a0) = false := decide_eq_false c2; clear c2; obtain rfl := Option.some.inj H; go_enter Tryd.func81, Tryd.ntmps81; go_wp2; go_ret; exact ⟨z5_, z10_⟩

/-! ### strings_Join: function 82 -/
def strings_Join.f (l0 : List ByteArray) (a1 : ByteArray) : Option (ByteArray) := if l0.length ≤ 140737488355328 ∧ (Lib.join (l0.map (·.data.toList)) a1.data.toList).length ≤ 140737488355328 then some ⟨(Lib.join (l0.map (·.data.toList)) a1.data.toList).toArray⟩ else none
set_option maxHeartbeats 8000000 in
set_option maxRecDepth 100000 in
theorem strings_Join.calls (A0 : Option Addr) (c0 : Nat) (l0 : List ByteArray) (a1 : ByteArray) (r : ByteArray) (w : World) (hr0 : Kd.C Kd.string w A0 l0.length l0) (hc0 : l0.length ≤ c0) (h : strings_Join.f l0 a1 = some r) :
    Calls Tryd.prog 82 #[.slice A0 l0.length c0, .string a1] w fun e w' => e = .returned (.string r) ∧ Below w.heap.size w w' := by
  unfold strings_Join.f at h; split at h
  ·rename_i hc; injection h with h; subst h; exact Tt.join_call 82 rfl A0 c0 l0 a1 w hc.1 hc.2 hr0 hc0
  ·cases h

/-! ### impl_AmountText: function 32 -/
def impl_AmountText.l0 : Nat → List ByteArray → List Int → Int → Int → Option (ByteArray)
  | 0, _, _, _, _ => none
  | k + 1, x3, x19, x20, x21 => if x21 < x20 then (if 0 ≤ x21 then (if x21 < (x19.length : Int) then (if (rd x19 x21) > 0 then ((impl_decimal.f (rd x19 x21)).bind fun t110 => (if x21 ≤ (wrap64 (x21 + 1)) then (if (wrap64 (x21 + 1)) ≤ 3 then (if t110.size + ((⟨#[108, 115, 100]⟩ : ByteArray).extract (x21 : Int).toNat ((wrap64 (x21 + 1)) : Int).toNat).size ≤ 9223372036854775807 then (if x3.length < 8796093022208 then (impl_AmountText.l0 k (x3 ++ [t110 ++ ((⟨#[108, 115, 100]⟩ : ByteArray).extract (x21 : Int).toNat ((wrap64 (x21 + 1)) : Int).toNat)]) x19 x20 (wrap64 (x21 + 1))) else (none)) else (none)) else (none)) else (none))) else (impl_AmountText.l0 k x3 x19 x20 (wrap64 (x21 + 1)))) else (none)) else (none)) else ((strings_Join.f x3 (⟨#[32]⟩ : ByteArray)).bind fun t114 => (some t114))
def impl_AmountText.f (k : Nat) (a0 : Int) : Option (ByteArray) := (impl_isAmount.f a0).bind fun t102 => (if t102 = true then (if a0 = 0 then (some (⟨#[48, 100]⟩ : ByteArray)) else ((some (([wrap64 (Int.tdiv a0 240), Int.tmod (wrap64 (Int.tdiv a0 12)) 20, Int.tmod a0 12] : List Int) : List Int)).bind fun y106 => (impl_AmountText.l0 k (([] : List ByteArray)) y106 (y106.length : Int) 0))) else (some (⟨#[]⟩ : ByteArray)))
theorem impl_AmountText.mono_l : ∀ k, (∀ y0 y1 y2 y3, LeO (impl_AmountText.l0 k y0 y1 y2 y3) (impl_AmountText.l0 (k + 1) y0 y1 y2 y3))
  | 0 => fun _ _ _ _ r h => by simp [impl_AmountText.l0] at h
  | k + 1 => by
    have ih0 := impl_AmountText.mono_l k
    · intro y0 y1 y2 y3
      unfold impl_AmountText.l0
      repeat' first
      | (with_reducible exact ih0 _ _ _ _)
      | (with_reducible exact LeO.refl _)
      | (with_reducible exact LeO.none _)
      | (with_reducible refine LeO.ite ?_ ?_)
      | (with_reducible refine LeO.bind ?_ (fun _ => ?_))
      | exact ih0 _ _ _ _
      | exact LeO.none _
      | refine LeO.ite ?_ ?_
      | refine LeO.bind ?_ (fun _ => ?_)
theorem impl_AmountText.mono : ∀ a0 k, LeO (impl_AmountText.f k a0) (impl_AmountText.f (k + 1) a0) := by
  intro a0 k; have ih0 := impl_AmountText.mono_l k; unfold impl_AmountText.f
  repeat' first
      | (with_reducible exact ih0 _ _ _ _)
      | (with_reducible exact LeO.refl _)
      | (with_reducible exact LeO.none _)
      | (with_reducible refine LeO.ite ?_ ?_)
      | (with_reducible refine LeO.bind ?_ (fun _ => ?_))
      | exact ih0 _ _ _ _
      | exact LeO.none _
      | refine LeO.ite ?_ ?_
      | refine LeO.bind ?_ (fun _ => ?_)
def impl_AmountText.T10 : Bool × List (List Nat × List Nat) := (true, [([], []), ([], []), ([1], [1]), ([], []), ([], []), ([4], [4]), ([3, 5], [3, 5]), ([2, 6], [2, 6]), ([7], [7]), ([0, 8, 2], [0, 8]), ([9, 9, 0, 1, 2, 3, 4, 5, 6, 7, 8, 9], [0, 9])])
def impl_AmountText.B10 : List Nat := [0, 0, 2, 0, 0, 16, 56, 126, 254, 511, 1023]
theorem impl_AmountText.tab10 : rtab .any (opsOf Tryd.f32 10) = impl_AmountText.T10 := by kernel_rfl
theorem impl_AmountText.bits10 : waitsOk impl_AmountText.T10.2 impl_AmountText.B10 = true := by kernel_rfl
set_option maxHeartbeats 8000000 in
set_option maxRecDepth 100000 in
theorem impl_AmountText.calls (k : Nat) (a0 : Int) (r : ByteArray) (w : World) (hT : Tt.TT w) (h : impl_AmountText.f k a0 = some r) :
    Calls Tryd.prog 32 #[.int .i64 a0] w fun e w' => e = .returned (.string r) ∧ Below w.heap.size w w' := by
  have HB := Aside0.mk (Below.refl w.heap.size w); have H : ((impl_isAmount.f a0).bind fun t102 => (if t102 = true then (if a0 = 0 then (some (⟨#[48, 100]⟩ : ByteArray)) else ((some (([wrap64 (Int.tdiv a0 240), Int.tmod (wrap64 (Int.tdiv a0 12)) 20, Int.tmod a0 12] : List Int) : List Int)).bind fun y106 => (impl_AmountText.l0 k (([] : List ByteArray)) y106 (y106.length : Int) 0))) else (some (⟨#[]⟩ : ByteArray)))) = some r := h; clear h; replace H := Option.bind_eq_some_iff.mp H; obtain ⟨t102, A20, H⟩ := H; replace H : (if t102 = true then (if a0 = 0 then (some (⟨#[48, 100]⟩ : ByteArray)) else ((some (([wrap64 (Int.tdiv a0 240), Int.tmod (wrap64 (Int.tdiv a0 12)) 20, Int.tmod a0 12] : List Int) : List Int)).bind fun y106 => (impl_AmountText.l0 k (([] : List ByteArray)) y106 (y106.length : Int) 0))) else (some (⟨#[]⟩ : ByteArray))) = some r := H; have A2 := Aside0.mk A20; clear A20; by_cases c3 : t102 = true
  ·subst c3; (have H1 : (if a0 = 0 then (some (⟨#[48, 100]⟩ : ByteArray)) else ((some (([wrap64 (Int.tdiv a0 240), Int.tmod (wrap64 (Int.tdiv a0 12)) 20, Int.tmod a0 12] : List Int) : List Int)).bind fun y106 => (impl_AmountText.l0 k (([] : List ByteArray)) y106 (y106.length : Int) 0))) = some r := z39_); clear H; have H := H1; clear H1; by_cases c4 : a0 = 0
   ·rw [if_pos c4] at H; have c4b0 : (a0 == 0) = true := beq_iff_eq.mpr c4; have c4b1 : (a0 != 0) = false := bne_eq_false_iff_eq.mpr c4; clear c4; obtain rfl := Option.some.inj H; go_enter Tryd.func32, Tryd.ntmps32; go_wp2_with (first | ((with_reducible refine gate_callee (f := 81) rfl ?_); refine goesL_ (some 7) rfl rfl Tryd.func81 z4_ rfl #[.int .i64 a0] rfl z1_ ?_; (with_reducible refine (impl_isAmount.calls a0 true _ A2.out).mono ?_); rintro e w' ⟨rfl, ⟨nd, rfl⟩⟩; refine ⟨_, rfl, ?_⟩)); go_ret; exact ⟨z3_, z0_⟩
   ·rw [if_neg c4] at H; have c4b0 : (a0 == 0) = false := beq_eq_false_iff_ne.mpr c4; have c4b1 : (a0 != 0) = true := bne_iff_ne.mpr c4; obtain ⟨y103, hy103⟩ : ∃ y_ : List ByteArray, y_ = (([] : List ByteArray)) := ⟨_, rfl⟩; (replace H : ((some (([wrap64 (Int.tdiv a0 240), Int.tmod (wrap64 (Int.tdiv a0 12)) 20, Int.tmod a0 12] : List Int) : List Int)).bind fun y106 => (impl_AmountText.l0 k y103 y106 (y106.length : Int) 0)) = some r := by first | (rw [hy103]; with_reducible exact H) | (have H2_ := (Option.bind_some _ _).symm.trans H; rw [hy103]; with_reducible exact H2_) | (have H2_ := (Option.bind_some _ _).symm.trans H; with_reducible exact H2_) | with_reducible exact H | (rw [hy103]; exact H) | exact H); have Ny103 := Aside0.mk hy103; clear hy103; obtain ⟨y106, hy106⟩ : ∃ y_ : List Int, y_ = (([wrap64 (Int.tdiv a0 240), Int.tmod (wrap64 (Int.tdiv a0 12)) 20, Int.tmod a0 12] : List Int)) := ⟨_, rfl⟩; (replace H : (impl_AmountText.l0 k y103 y106 (y106.length : Int) 0) = some r := by first | (rw [hy106]; with_reducible exact H) | (have H2_ := (Option.bind_some _ _).symm.trans H; rw [hy106]; with_reducible exact H2_) | (have H2_ := (Option.bind_some _ _).symm.trans H; with_reducible exact H2_) | with_reducible exact H | (rw [hy106]; exact H) | exact H); have Ny106 := Aside0.mk hy106; clear hy106; have H' := Aside0.mk H; clear H; go_enter Tryd.func32, Tryd.ntmps32; go_wp2_with (first | ((with_reducible refine gate_callee (f := 81) rfl ?_); refine goesL_ (some 7) rfl rfl Tryd.func81 z4_ rfl #[.int .i64 a0] rfl z1_ ?_; (with_reducible refine (impl_isAmount.calls a0 true _ A2.out).mono ?_); rintro e w' ⟨rfl, ⟨nd, rfl⟩⟩; refine ⟨_, rfl, ?_⟩) | ((with_reducible refine gate_dst (N := 11) rfl ?_); refine Kd.R_lit Kd.string _ 9 ?hg (N := 11) ?hd (xs := ([] : List ByteArray)) (inner := []) (ok := fun _ => True) (okp := fun _ => True) ?hr ?hp (fun _ hk => hk) trivial (Below.refl _ _) (Nat.le_refl _) (by simp) ?_; (case hd => rfl); (case hg => rfl); (case hr => first | (go_simp; done) | (go_simp; rfl)); (case hp => exact (Reps.none _ _)); intro v104 w5 ho6 hb hg_ hnew_; clear hg_ hnew_; (first | rw [← Ny103.out] at ho6 | (simp only [Int.reduceToNat] at ho6; rw [← Ny103.out] at ho6)); have n0_ := Aside0.mk (Kd.R_lower ho6 (below_size z0_)); have n1_ := Aside0.mk (below_step z0_ hb); clear HB; have HO105 := n0_; have HB := n1_; clear n0_ n1_; clear hb ho6) | ((with_reducible refine gate_dst (N := 19) rfl ?_); refine Kd.R_lit (Kd.int .i64) _ 2 ?hg (N := 19) ?hd (xs := ([wrap64 (Int.tdiv a0 240), Int.tmod (wrap64 (Int.tdiv a0 12)) 20, Int.tmod a0 12] : List Int)) (inner := [.int .i64 (wrap64 (Int.tdiv a0 240)), .int .i64 (Int.tmod (wrap64 (Int.tdiv a0 12)) 20), .int .i64 (Int.tmod a0 12)]) (ok := fun _ => True) (okp := fun _ => True) ?hr ?hp (fun _ hk => hk) trivial (Below.refl _ _) (Nat.le_refl _) (by simp) ?_; (case hd => rfl); (case hg => rfl); (case hr => first | (go_simp; done) | (go_simp; rfl)); (case hp => exact (Reps.one (show Kd.M (Kd.int .i64) _ _ _ (wrap64 (Int.tdiv a0 240)) [.int .i64 (wrap64 (Int.tdiv a0 240))] from rfl) (Reps.one (show Kd.M (Kd.int .i64) _ _ _ (Int.tmod (wrap64 (Int.tdiv a0 12)) 20) [.int .i64 (Int.tmod (wrap64 (Int.tdiv a0 12)) 20)] from rfl) (Reps.one (show Kd.M (Kd.int .i64) _ _ _ (Int.tmod a0 12) [.int .i64 (Int.tmod a0 12)] from rfl) (Reps.none _ _))))); intro v107 w7 ho8 hb hg_ hnew_; clear hg_ hnew_; (first | rw [← Ny106.out] at ho8 | (simp only [Int.reduceToNat] at ho8; rw [← Ny106.out] at ho8)); have n0_ := Aside0.mk (Kd.R_below (by (with_reducible repeat (first | apply Kd.R_alloc | apply Kd.R_drewN | apply Kd.R_drew)); exact HO105.out) hb); have n1_ := Aside0.mk (Kd.R_lower ho8 (below_size z0_)); have n2_ := Aside0.mk (below_step z0_ hb); clear HO105; clear HB; have HO105 := n0_; have HO108 := n1_; have HB := n2_; clear n0_ n1_ n2_; clear hb ho8; obtain ⟨Ao9, co9, eo9⟩ := Kd.R_slice HO108.out; subst eo9)); go_loopg [3, 21] k (fun kq v3 v21 w' => ∃ (x3_1 : List ByteArray) (x21_1 : Int), v21 = .int .i64 x21_1 ∧ Aside0 (impl_AmountText.l0 kq x3_1 y106 (y106.length : Int) x21_1 = some r) ∧ Aside0 (kq ≤ k) ∧ Aside0 (Kd.R Kd.string 9 w' w.heap.size (fun _ => True) v3 x3_1) ∧ Aside0 (Kd.R (Kd.int .i64) 2 w' w.heap.size (fun _ => True) (.slice Ao9 y106.length co9) y106) ∧ Aside0 (Below w.heap.size w w'))
    case atStart => exact ⟨(y103), (0), z5_, H', ⟨Nat.le_refl _⟩, ⟨by (with_reducible repeat (first | apply Kd.R_alloc | apply Kd.R_drewN | apply Kd.R_drew)); exact HO105.out⟩, ⟨by (with_reducible repeat (first | apply Kd.R_alloc | apply Kd.R_drewN | apply Kd.R_drew)); exact HO108.out⟩, ⟨z0_⟩⟩
    case round =>
      clear H'; (try clear p2); (try clear c3); (try clear c4); (try clear c4b0); (try clear c4b1); (try clear p6); (try clear c8); obtain ⟨x3_1, x21_1, rfl, HA, HK1, HO_3, HO_19, HB⟩ := hrel
      cases gk with
      | zero => exact absurd HA.out (by simp [impl_AmountText.l0])
      | succ k1 =>
        have H := HA.out; clear HA; simp only [impl_AmountText.l0] at H; by_cases c10 : x21_1 < (y106.length : Int)
        ·rw [if_pos c10] at H; have c10b0 : decide (x21_1 < (y106.length : Int)) = true := decide_eq_true c10; clear c10; by_cases c11 : 0 ≤ x21_1
         ·rw [if_pos c11] at H; have c11b0 : decide (0 ≤ x21_1) = true := decide_eq_true c11; clear c11; by_cases c12 : x21_1 < (y106.length : Int)
          ·rw [if_pos c12] at H; have c12b0 : decide (x21_1 < (y106.length : Int)) = true := decide_eq_true c12; clear c12; by_cases c13 : (rd y106 x21_1) > 0
           ·rw [if_pos c13] at H; have c13b0 : decide (0 < (rd y106 x21_1)) = true := decide_eq_true c13; clear c13; replace H := Option.bind_eq_some_iff.mp H; obtain ⟨t110, A140, H⟩ := H; replace H : (if x21_1 ≤ (wrap64 (x21_1 + 1)) then (if (wrap64 (x21_1 + 1)) ≤ 3 then (if t110.size + ((⟨#[108, 115, 100]⟩ : ByteArray).extract (x21_1 : Int).toNat ((wrap64 (x21_1 + 1)) : Int).toNat).size ≤ 9223372036854775807 then (if x3_1.length < 8796093022208 then (impl_AmountText.l0 k1 (x3_1 ++ [t110 ++ ((⟨#[108, 115, 100]⟩ : ByteArray).extract (x21_1 : Int).toNat ((wrap64 (x21_1 + 1)) : Int).toNat)]) y106 (y106.length : Int) (wrap64 (x21_1 + 1))) else (none)) else (none)) else (none)) else (none)) = some r := H; have A14 := Aside0.mk A140; clear A140; have c15b0 := eq_true (of_decide_eq_true (z2_) : 0 ≤ x21_1); by_cases c16 : x21_1 ≤ (wrap64 (x21_1 + 1))
            ·rw [if_pos c16] at H; have c16b0 := eq_true c16; have c16b1 : decide (x21_1 ≤ (wrap64 (x21_1 + 1))) = true := decide_eq_true c16; by_cases c17 : (wrap64 (x21_1 + 1)) ≤ 3
             ·rw [if_pos c17] at H; have c17b0 := eq_true c17; have c17b1 : decide ((wrap64 (x21_1 + 1)) ≤ 3) = true := decide_eq_true c17; by_cases c18 : t110.size + ((⟨#[108, 115, 100]⟩ : ByteArray).extract (x21_1 : Int).toNat ((wrap64 (x21_1 + 1)) : Int).toNat).size ≤ 9223372036854775807
              ·rw [if_pos c18] at H; have c18b0 := eq_true c18; have c18b1 : decide (t110.size + ((⟨#[108, 115, 100]⟩ : ByteArray).extract (x21_1 : Int).toNat ((wrap64 (x21_1 + 1)) : Int).toNat).size ≤ 9223372036854775807) = true := decide_eq_true c18; (try have c18b2 : (9223372036854775807 < t110.size + ((⟨#[108, 115, 100]⟩ : ByteArray).extract (x21_1 : Int).toNat ((wrap64 (x21_1 + 1)) : Int).toNat).size) = False := eq_false (Nat.not_lt.2 c18)); (try (have c18b3 := c18b2; simp only [go_sem, List.size_toArray, List.length_cons, List.length_nil, Nat.zero_add] at c18b3)); (try have c18b4 : (9223372036854775807 < t110.size + (((wrap64 (x21_1 + 1)) : Int).toNat - (x21_1 : Int).toNat)) = False := eq_false (by have h_ := c18; simp only [go_sem, List.size_toArray, List.length_cons, List.length_nil, Nat.zero_add, ByteArray.size_extract] at h_; omega)); by_cases c19 : x3_1.length < 8796093022208
               ·rw [if_pos c19] at H; have LMc19 := Aside0.mk c19; clear c19; obtain ⟨y111, hy111⟩ : ∃ y_ : List ByteArray, y_ = (x3_1 ++ [t110 ++ ((⟨#[108, 115, 100]⟩ : ByteArray).extract (x21_1 : Int).toNat ((wrap64 (x21_1 + 1)) : Int).toNat)]) := ⟨_, rfl⟩; (replace H : (impl_AmountText.l0 k1 y111 y106 (y106.length : Int) (wrap64 (x21_1 + 1))) = some r := by first | (rw [hy111]; with_reducible exact H) | (have H2_ := (Option.bind_some _ _).symm.trans H; rw [hy111]; with_reducible exact H2_) | (have H2_ := (Option.bind_some _ _).symm.trans H; with_reducible exact H2_) | with_reducible exact H | (rw [hy111]; exact H) | exact H); have Ny111 := Aside0.mk hy111; clear hy111; have H' := Aside0.mk H; clear H; have p109 : 0 ≤ (x21_1 : Int) := of_decide_eq_true z2_; have q109 : x21_1 < (y106.length : Int) := of_decide_eq_true z2_; obtain ⟨ad109, e109, hx109_0⟩ := Kd.at_int (Kd.R_reads' HO_19.out).2.2 x21_1 p109 q109; cases e109; replace p109 := eq_true p109; replace q109 := eq_true q109; (try go_wp2); have n0_ := Aside0.mk (Kd.R_drew HO_3.out); have n1_ := Aside0.mk (Kd.R_drew HO_19.out); have n2_ := Aside0.mk (below_drew1 HB.out); clear HO_3; clear HO_19; clear HB; have HO_3 := n0_; have HO_19 := n1_; have HB := n2_; clear n0_ n1_ n2_; refine start_ (n := 11) (S := fun w' => True) (ds := []) #[false, false, false, false, false, false, false, false, false, false, false] z4_ rfl rfl trivial (fun hHeld => ?_); refine with_tabW impl_AmountText.tab10 impl_AmountText.bits10 (fun HT_ HW_ => ?_); generalize wr.drew = w20 at HO_3 HO_19 HB hHeld ⊢; refine pure_ (i := 0) (N := some 28) (v := ?_) (a' := ?_) #[true, false, false, false, false, false, false, false, false, false, false] rfl rfl (any_of HT_.out z4_) (fun _ _ _ h => h) (Or.inl ⟨by rfl, ?_⟩) ?_ ?_; rotate_left
                ·intro w'; go_simp; with_reducible rfl
                rotate_left
                ·simp only [Act.put, List.setIfInBounds_toArray, List.set_cons_zero, List.set_cons_succ, i64_w, i32_w]; rfl
                refine pure_ (i := 1) (N := some 29) (v := ?_) (a' := ?_) #[true, true, false, false, false, false, false, false, false, false, false] rfl rfl (any_of HT_.out z4_) (fun _ _ _ h => h) (Or.inl ⟨by rfl, ?_⟩) ?_ ?_; rotate_left
                ·intro w'; go_simp; with_reducible rfl
                rotate_left
                ·simp only [Act.put, List.setIfInBounds_toArray, List.set_cons_zero, List.set_cons_succ, i64_w, i32_w]; rfl
                refine pure_ (i := 3) (N := some 31) (v := ?_) (a' := ?_) #[true, true, false, true, false, false, false, false, false, false, false] rfl rfl (any_of HT_.out z4_) (fun _ _ _ h => h) (Or.inl ⟨by rfl, ?_⟩) ?_ ?_; rotate_left
                ·intro w'; go_simp; with_reducible rfl
                rotate_left
                ·simp only [Act.put, List.setIfInBounds_toArray, List.set_cons_zero, List.set_cons_succ, i64_w, i32_w]; rfl
                refine pure_ (i := 4) (N := some 32) (v := ?_) (a' := ?_) #[true, true, false, true, true, false, false, false, false, false, false] rfl rfl (any_of HT_.out z4_) (fun _ _ _ h => h) (Or.inl ⟨by rfl, ?_⟩) ?_ ?_; rotate_left
                ·intro w'; go_simp; with_reducible rfl
                rotate_left
                ·simp only [Act.put, List.setIfInBounds_toArray, List.set_cons_zero, List.set_cons_succ, i64_w, i32_w]; rfl
                refine pure_ (i := 5) (N := some 33) (v := ?_) (a' := ?_) #[true, true, false, true, true, true, false, false, false, false, false] rfl rfl (any_of HT_.out z4_) (fun _ _ _ h => h) (Or.inl ⟨by rfl, ?_⟩) ?_ ?_; rotate_left
                ·intro w'; go_simp; with_reducible rfl
                rotate_left
                ·simp only [Act.put, List.setIfInBounds_toArray, List.set_cons_zero, List.set_cons_succ, i64_w, i32_w]; rfl
                refine pure_ (i := 6) (N := some 34) (v := ?_) (a' := ?_) #[true, true, false, true, true, true, true, false, false, false, false] rfl rfl (any_of HT_.out z4_) (fun _ _ _ h => h) (Or.inl ⟨by rfl, ?_⟩) ?_ ?_; rotate_left
                ·intro w'; go_simp; with_reducible rfl
                rotate_left
                ·simp only [Act.put, List.setIfInBounds_toArray, List.set_cons_zero, List.set_cons_succ, i64_w, i32_w]; rfl
                refine one_ (i := 2) (N := some 30) #[true, true, true, true, true, true, true, false, false, false, false] rfl rfl (one_of HT_.out z4_) (by decide) (fun K hK => ?_); refine goes_ Tryd.func61 z4_ rfl #[.int .i64 (rd y106 x21_1)] (by rfl) rfl rfl z1_ ?_; (with_reducible refine (impl_decimal.calls (rd y106 x21_1) t110 _ ?side1 A14.out).mono ?_); (case side1 => first | exact hT | exact Tt.TT_on hT z0_); rintro e w21 ⟨rfl, hb⟩; refine ⟨_, rfl, ?_⟩; have n0_ := Aside0.mk (Kd.R_below z56_ hb); have n1_ := Aside0.mk (Kd.R_below z54_ hb); have n2_ := Aside0.mk (below_step z0_ hb); clear HO_3; clear HO_19; clear HB; have HO_3 := n0_; have HO_19 := n1_; have HB := n2_; clear n0_ n1_ n2_; (try clear hb); (try clear hb2); (try clear hk); (try clear hi); refine hK.out _ _ trivial (fun hHeld => ?_); clear hK K; refine norm_ (a' := ?_) ?_ ?_; rotate_left
                ·show Act.put _ (some 30) _ = _; simp only [Act.put, List.setIfInBounds_toArray, List.set_cons_zero, List.set_cons_succ, i64_w, i32_w]; rfl
                refine pure_ (i := 7) (N := some 35) (v := ?_) (a' := ?_) #[true, true, true, true, true, true, true, true, false, false, false] rfl rfl (any_of HT_.out z4_) (fun _ _ _ h => h) (Or.inl ⟨by rfl, ?_⟩) ?_ ?_; rotate_left
                ·intro w'; go_simp; with_reducible rfl
                rotate_left
                ·simp only [Act.put, List.setIfInBounds_toArray, List.set_cons_zero, List.set_cons_succ, i64_w, i32_w]; rfl
                refine one_ (i := 8) (N := some 36) #[true, true, true, true, true, true, true, true, true, false, false] rfl rfl (one_of HT_.out z4_) (by decide) (fun K hK => ?_); refine value_ (w1 := ?_) (v := ?_) (by rfl) rfl ?_ ?_; rotate_left 2
                ·go_simp; constructor
                 ·rfl
                 ·rfl
                refine hK.out _ _ trivial (fun hHeld => ?_); clear hK K; refine norm_ (a' := ?_) ?_ ?_; rotate_left
                ·show Act.put _ (some 36) _ = _; simp only [Act.put, List.setIfInBounds_toArray, List.set_cons_zero, List.set_cons_succ, i64_w, i32_w]; rfl
                refine one_ (i := 9) (N := some 37) #[true, true, true, true, true, true, true, true, true, true, false] rfl rfl (one_of HT_.out z4_) (by decide) (fun K hK => ?_); refine Kd.R_append_step Kd.string (w0 := w) w.heap.size (by rfl) (.tmp 28) (.tmp 36) 80 9 (.string ⟨#[]⟩) 16 rfl Tryd.underlying80 info9 rfl (by decide) (by omega) u3 x3_1 (t110 ++ ((⟨#[108, 115, 100]⟩ : ByteArray).extract (x21_1 : Int).toNat ((wrap64 (x21_1 + 1)) : Int).toNat)) [.string (t110 ++ ((⟨#[108, 115, 100]⟩ : ByteArray).extract (x21_1 : Int).toNat ((wrap64 (x21_1 + 1)) : Int).toNat))] (fun _ => True) (fun _ => False) rfl rfl ?aP (fun _ hk => hk.elim) ?aF ?aO ?aB ?aS ?aL ?_; (case aP => exact rfl); (case aB => exact z0_); (case aF => exact (fun _ _ => trivial)); (case aO => exact z56_); (case aS => exact (below_size z0_)); (case aL => have := LMc19.out; omega); intro v112 w22 ho hb hg hat; rw [← Ny111.out] at ho; have n0_ := Aside0.mk (Kd.R_over' z54_ (Kd.R_typed z56_) (by decide) hg); have n1_ := Aside0.mk (hb); have n2_ := Aside0.mk (ho); clear HO_19; clear HB; clear HO_3; have HO_19 := n0_; have HB := n1_; have HO113 := n2_; clear n0_ n1_ n2_; clear ho hb hg hat; refine hK.out _ _ trivial (fun hHeld => ?_); clear hK K; refine norm_ (a' := ?_) ?_ ?_; rotate_left
                ·show Act.put _ (some 37) _ = _; simp only [Act.put, List.setIfInBounds_toArray, List.set_cons_zero, List.set_cons_succ, i64_w, i32_w]; rfl
                refine pure_ (i := 10) (N := some 3) (v := ?_) (a' := ?_) #[true, true, true, true, true, true, true, true, true, true, true] rfl rfl (any_of HT_.out z4_) (fun _ _ _ h => h) (Or.inl ⟨by rfl, ?_⟩) ?_ ?_; rotate_left
                ·intro w'; go_simp; with_reducible rfl
                rotate_left
                ·simp only [Act.put, List.setIfInBounds_toArray, List.set_cons_zero, List.set_cons_succ, i64_w, i32_w]; rfl
                refine done_ (done_of HT_.out z4_) ?_; (try go_wp2); go_roundg k1
                case measure => have := HK1.out; omega
                case rel => exact ⟨(y111), (wrap64 (x21_1 + 1)), z5_, H', ⟨z62_⟩, ⟨by (with_reducible repeat (first | apply Kd.R_alloc | apply Kd.R_drewN | apply Kd.R_drew)); exact HO113.out⟩, ⟨z54_⟩, ⟨z0_⟩⟩
               ·rw [if_neg c19] at H; exact absurd H (by simp)
              ·rw [if_neg c18] at H; exact absurd H (by simp)
             ·rw [if_neg c17] at H; exact absurd H (by simp)
            ·rw [if_neg c16] at H; exact absurd H (by simp)
           ·rw [if_neg c13] at H; have c13b0 : decide (0 < (rd y106 x21_1)) = false := decide_eq_false c13; clear c13; have H' := Aside0.mk H; clear H; have p109 : 0 ≤ (x21_1 : Int) := of_decide_eq_true z2_; have q109 : x21_1 < (y106.length : Int) := of_decide_eq_true z2_; obtain ⟨ad109, e109, hx109_0⟩ := Kd.at_int (Kd.R_reads' HO_19.out).2.2 x21_1 p109 q109; cases e109; replace p109 := eq_true p109; replace q109 := eq_true q109; go_wp2; go_roundg k1
            case measure => have := HK1.out; omega
            case rel => exact ⟨(x3_1), (wrap64 (x21_1 + 1)), z5_, H', ⟨z62_⟩, ⟨z56_⟩, ⟨z54_⟩, ⟨z0_⟩⟩
          ·rw [if_neg c12] at H; exact absurd H (by simp)
         ·rw [if_neg c11] at H; exact absurd H (by simp)
        ·rw [if_neg c10] at H; have c10b0 : decide (x21_1 < (y106.length : Int)) = false := decide_eq_false c10; clear c10; replace H := Option.bind_eq_some_iff.mp H; obtain ⟨t114, A230, H⟩ := H; replace H : (some t114) = some r := H; have A23 := Aside0.mk A230; clear A230; obtain rfl := Option.some.inj H; obtain ⟨Ao24, co24, eo24⟩ := Kd.R_slice HO_3.out; subst eo24; go_wp2_with (first | ((with_reducible refine gate_callee (f := 82) rfl ?_); refine goesL_ (some 40) rfl rfl Tryd.func82 z4_ rfl #[.slice Ao24 x3_1.length co24, .string (⟨#[32]⟩ : ByteArray)] rfl z1_ ?_; (with_reducible refine (strings_Join.calls _ _ x3_1 (⟨#[32]⟩ : ByteArray) t114 _ ?side1 ?side2 A23.out).mono ?_); (case side1 => repeat (first | exact (Kd.R_reads' HO_3.out).2.2 | (with_reducible refine Kd.C_alloc ?_ _) | (with_reducible refine Kd.C_drewN ?_ _) | (with_reducible refine Kd.C_drew ?_))); (case side2 => exact (Kd.R_reads' HO_3.out).2.1); rintro e w25 ⟨rfl, hb⟩; refine ⟨_, rfl, ?_⟩; have n0_ := Aside0.mk (Kd.R_below z56_ hb); have n1_ := Aside0.mk (Kd.R_below z54_ hb); have n2_ := Aside0.mk (below_step z0_ hb); clear HO_3; clear HO_19; clear HB; have HO_3 := n0_; have HO_19 := n1_; have HB := n2_; clear n0_ n1_ n2_; (try clear hb); (try clear hb2); (try clear hk); (try clear hi))); go_ret; exact ⟨z3_, z0_⟩
  ·replace c3 := Bool.eq_false_iff.mpr c3; subst c3; (have H1 : (some (⟨#[]⟩ : ByteArray)) = some r := z17_); clear H; have H := H1; clear H1; obtain rfl := Option.some.inj H; go_enter Tryd.func32, Tryd.ntmps32; go_wp2_with (first | ((with_reducible refine gate_callee (f := 81) rfl ?_); refine goesL_ (some 7) rfl rfl Tryd.func81 z4_ rfl #[.int .i64 a0] rfl z1_ ?_; (with_reducible refine (impl_isAmount.calls a0 false _ A2.out).mono ?_); rintro e w' ⟨rfl, ⟨nd, rfl⟩⟩; refine ⟨_, rfl, ?_⟩)); go_ret; exact ⟨z3_, z0_⟩

/-! ### impl_ValidDebts: function 50 -/
mutual
def impl_ValidDebts.j0 : Nat → Int → List (S77) → Bool → Option (Bool)
  | 0, _, _, _ => none
  | k + 1, x0, x1, x17 => if x17 = true then (some false) else (impl_ValidDebts.l0 k x0 x1 (x1.length : Int) 0)
def impl_ValidDebts.l0 : Nat → Int → List (S77) → Int → Int → Option (Bool)
  | 0, _, _, _, _ => none
  | k + 1, x0, x18, x19, x20 => if x20 < x19 then (if 0 ≤ x20 then (if x20 < (x18.length : Int) then (if ((rd_T77 x18 x20).f0) < 0 then (some false) else (if ((rd_T77 x18 x20).f0) ≥ x0 then (some false) else (if ((rd_T77 x18 x20).f1) < 0 then (some false) else (if ((rd_T77 x18 x20).f1) ≥ x0 then (some false) else (if ((rd_T77 x18 x20).f0) = ((rd_T77 x18 x20).f1) then (some false) else (if ((rd_T77 x18 x20).f2) < 1 then (some false) else (if ((rd_T77 x18 x20).f2) > 100000000 then (some false) else (impl_ValidDebts.l0 k x0 x18 x19 (wrap64 (x20 + 1)))))))))) else (none)) else (none)) else (some true)
end
def impl_ValidDebts.f (k : Nat) (a0 : Int) (l1 : List (S77)) : Option (Bool) := if a0 < 1 then (impl_ValidDebts.j0 k a0 l1 true) else (if a0 > 16 then (impl_ValidDebts.j0 k a0 l1 true) else (impl_ValidDebts.j0 k a0 l1 (decide ((l1.length : Int) > 60))))
theorem impl_ValidDebts.mono_l : ∀ k, (∀ y0 y1 y2, LeO (impl_ValidDebts.j0 k y0 y1 y2) (impl_ValidDebts.j0 (k + 1) y0 y1 y2)) ∧ (∀ y0 y1 y2 y3, LeO (impl_ValidDebts.l0 k y0 y1 y2 y3) (impl_ValidDebts.l0 (k + 1) y0 y1 y2 y3))
  | 0 => ⟨fun _ _ _ r h => by simp [impl_ValidDebts.j0] at h, fun _ _ _ _ r h => by simp [impl_ValidDebts.l0] at h⟩
  | k + 1 => by
    obtain ⟨ih0, ih1⟩ := impl_ValidDebts.mono_l k
    refine ⟨?_, ?_⟩
    · intro y0 y1 y2
      unfold impl_ValidDebts.j0
      repeat' first
      | (with_reducible exact ih0 _ _ _)
      | (with_reducible exact ih1 _ _ _ _)
      | (with_reducible exact LeO.refl _)
      | (with_reducible exact LeO.none _)
      | (with_reducible refine LeO.ite ?_ ?_)
      | (with_reducible refine LeO.bind ?_ (fun _ => ?_))
      | exact ih0 _ _ _
      | exact ih1 _ _ _ _
      | exact LeO.none _
      | refine LeO.ite ?_ ?_
      | refine LeO.bind ?_ (fun _ => ?_)
    · intro y0 y1 y2 y3
      unfold impl_ValidDebts.l0
      repeat' first
      | (with_reducible exact ih0 _ _ _)
      | (with_reducible exact ih1 _ _ _ _)
      | (with_reducible exact LeO.refl _)
      | (with_reducible exact LeO.none _)
      | (with_reducible refine LeO.ite ?_ ?_)
      | (with_reducible refine LeO.bind ?_ (fun _ => ?_))
      | exact ih0 _ _ _
      | exact ih1 _ _ _ _
      | exact LeO.none _
      | refine LeO.ite ?_ ?_
      | refine LeO.bind ?_ (fun _ => ?_)
theorem impl_ValidDebts.mono : ∀ a0 a1 k, LeO (impl_ValidDebts.f k a0 a1) (impl_ValidDebts.f (k + 1) a0 a1) := by
  intro a0 a1 k; obtain ⟨ih0, ih1⟩ := impl_ValidDebts.mono_l k; unfold impl_ValidDebts.f
  repeat' first
      | (with_reducible exact ih0 _ _ _)
      | (with_reducible exact ih1 _ _ _ _)
      | (with_reducible exact LeO.refl _)
      | (with_reducible exact LeO.none _)
      | (with_reducible refine LeO.ite ?_ ?_)
      | (with_reducible refine LeO.bind ?_ (fun _ => ?_))
      | exact ih0 _ _ _
      | exact ih1 _ _ _ _
      | exact LeO.none _
      | refine LeO.ite ?_ ?_
      | refine LeO.bind ?_ (fun _ => ?_)
set_option maxHeartbeats 8000000 in
set_option maxRecDepth 100000 in
theorem impl_ValidDebts.calls (k : Nat) (a0 : Int) (A1 : Option Addr) (c1 : Nat) (l1 : List (S77)) (r : Bool) (w : World) (hr1 : Kd.C k77 w A1 l1.length l1) (hc1 : l1.length ≤ c1) (h : impl_ValidDebts.f k a0 l1 = some r) :
    Calls Tryd.prog 50 #[.int .i64 a0, .slice A1 l1.length c1] w fun e w' => e = .returned (.bool r) ∧ Below w.heap.size w w' := by
  have hu77 := Tryd.underlying77; have HR1 := Aside0.mk hr1; have HC1 := Aside0.mk hc1; clear hr1 hc1; have HB := Aside0.mk (Below.refl w.heap.size w); have H : (if a0 < 1 then (impl_ValidDebts.j0 k a0 l1 true) else (if a0 > 16 then (impl_ValidDebts.j0 k a0 l1 true) else (impl_ValidDebts.j0 k a0 l1 (decide ((l1.length : Int) > 60))))) = some r := h; clear h; have HC3 := Aside0.mk H; clear H; go_enter Tryd.func50, Tryd.ntmps50; go_upto_region 1 with (fail); go_cut [17] (fun v17 wc => ∃ (kq : Nat) (x17_2 : Bool), v17 = .bool x17_2 ∧ Aside0 (impl_ValidDebts.j0 kq a0 l1 x17_2 = some r) ∧ Aside0 (kq ≤ k) ∧ Aside0 (Below w.heap.size w wc))
  case first =>
    have H := HC3.out; clear HC3; by_cases c4 : a0 < 1
    ·rw [if_pos c4] at H; have c4b0 : decide (a0 < 1) = true := decide_eq_true c4; clear c4; (first | rw [c4b0] | (simp only [i64_w, i32_w]; rw [c4b0]) | skip); have H' := Aside0.mk H; clear H; go_wp2; go_meet
     case rel => exact ⟨_, (true), z5_, H', ⟨z42_⟩, ⟨z0_⟩⟩
    ·rw [if_neg c4] at H; have c4b0 : decide (a0 < 1) = false := decide_eq_false c4; clear c4; (first | rw [c4b0] | (simp only [i64_w, i32_w]; rw [c4b0]) | skip); by_cases c5 : a0 > 16
     ·rw [if_pos c5] at H; have c5b0 : decide (16 < a0) = true := decide_eq_true c5; clear c5; have H' := Aside0.mk H; clear H; go_wp2; go_meet
      case rel => exact ⟨_, (true), z5_, H', ⟨z42_⟩, ⟨z0_⟩⟩
     ·rw [if_neg c5] at H; have c5b0 : decide (16 < a0) = false := decide_eq_false c5; clear c5; have H' := Aside0.mk H; clear H; go_wp2; go_meet
      case rel => exact ⟨_, (decide ((l1.length : Int) > 60)), z5_, H', ⟨z42_⟩, ⟨z0_⟩⟩
  case rest =>
    clear HC3; (try clear c1); (try clear p2); (try clear c4); (try clear c4b0); (try clear c5); (try clear c5b0); obtain ⟨kq, x17_2, rfl, HA, HJ2, HB⟩ := hcut
    cases kq with
    | zero => exact absurd HA.out (by simp [impl_ValidDebts.j0])
    | succ kj2 =>
      have H := HA.out; clear HA; simp only [impl_ValidDebts.j0] at H; by_cases c6 : x17_2 = true
      ·subst c6; (have H1 : (some false) = some r := z39_); clear H; have H := H1; clear H1; obtain rfl := Option.some.inj H; go_wp2; go_ret; exact ⟨z3_, z0_⟩
      ·replace c6 := Bool.eq_false_iff.mpr c6; subst c6; (have H1 : (impl_ValidDebts.l0 kj2 a0 l1 (l1.length : Int) 0) = some r := z17_); clear H; have H := H1; clear H1; have H' := Aside0.mk H; clear H; go_wp2; go_loopg [20] kj2 (fun kq v20 w' => ∃ (x20_2 : Int), v20 = .int .i64 x20_2 ∧ Aside0 (impl_ValidDebts.l0 kq a0 l1 (l1.length : Int) x20_2 = some r) ∧ Aside0 (kq ≤ kj2) ∧ Aside0 (Below w.heap.size w w'))
       case atStart => exact ⟨(0), z5_, H', ⟨Nat.le_refl _⟩, ⟨z0_⟩⟩
       case round =>
         clear H'; (try clear c1); (try clear p2); (try clear c4); (try clear c4b0); (try clear c5); (try clear c5b0); (try clear c6); (try clear p2); obtain ⟨x20_2, rfl, HA, HK2, HB⟩ := hrel
         cases gk with
         | zero => exact absurd HA.out (by simp [impl_ValidDebts.l0])
         | succ k2 =>
           have H := HA.out; clear HA; simp only [impl_ValidDebts.l0] at H; by_cases c7 : x20_2 < (l1.length : Int)
           ·rw [if_pos c7] at H; have c7b0 : decide (x20_2 < (l1.length : Int)) = true := decide_eq_true c7; clear c7; by_cases c8 : 0 ≤ x20_2
            ·rw [if_pos c8] at H; have c8b0 : decide (0 ≤ x20_2) = true := decide_eq_true c8; clear c8; by_cases c9 : x20_2 < (l1.length : Int)
             ·rw [if_pos c9] at H; have c9b0 : decide (x20_2 < (l1.length : Int)) = true := decide_eq_true c9; clear c9; by_cases c10 : ((rd_T77 l1 x20_2).f0) < 0
              ·rw [if_pos c10] at H; have c10b0 : decide (((rd_T77 l1 x20_2).f0) < 0) = true := decide_eq_true c10; clear c10; obtain rfl := Option.some.inj H; have p115 : 0 ≤ (x20_2 : Int) := of_decide_eq_true z2_; have q115 : x20_2 < (l1.length : Int) := of_decide_eq_true z2_; obtain ⟨ad115, e115, hx115_0, hx115_1, hx115_2⟩ := at_T77 HR1.out x20_2 p115 q115; cases e115; replace hx115_0 := (HB.out.cell (World.block_lt_of_cell? w _ hx115_0)).trans hx115_0; replace hx115_1 := (HB.out.cell (World.block_lt_of_cell? w _ hx115_1)).trans hx115_1; replace hx115_2 := (HB.out.cell (World.block_lt_of_cell? w _ hx115_2)).trans hx115_2; replace p115 := eq_true p115; replace q115 := eq_true q115; go_wp2_with (first | ((with_reducible refine gate_dst (N := 6) rfl ?_); (try (refine gate_guard (by rfl) ?_; dsimp only)); refine box_event ?hg (N := 6) ?hd (cs := #[.int .i64 0, .int .i64 0, .int .i64 0]) (t := 77) ?hr ?_; (case hd => rfl); (case hg => rfl); (case hr => first | (go_simp; done) | (go_simp; rfl)); intro gb116 hg w11 hbox hb; have n0_ := Aside0.mk (below_step z0_ hb); have n1_ := Aside0.mk (hbox); have n2_ := Aside0.mk ((by rw [hg]; exact (below_size z0_) : w.heap.size ≤ gb116)); have n3_ := Aside0.mk ((by rw [hg]; exact (below_size z0_) : w.heap.size ≤ gb116)); clear HB; have HB := n0_; have BK116 := n1_; have GW116 := n2_; have GE116 := n3_; clear n0_ n1_ n2_ n3_; clear hb hbox hg; have hcz12_0 : w11.cell? ⟨gb116, 0, none⟩ = some (.int .i64 0) := (blk_cell BK116.out 0).trans rfl; have hcz12_1 : w11.cell? ⟨gb116, 1, none⟩ = some (.int .i64 0) := (blk_cell BK116.out 1).trans rfl; have hcz12_2 : w11.cell? ⟨gb116, 2, none⟩ = some (.int .i64 0) := (blk_cell BK116.out 2).trans rfl; have hfz12_0 := blk_frozen BK116.out 0; have hfz12_1 := blk_frozen BK116.out 1; have hfz12_2 := blk_frozen BK116.out 2)); go_ret; exact ⟨z3_, z35_⟩
              ·rw [if_neg c10] at H; have c10b0 : decide (((rd_T77 l1 x20_2).f0) < 0) = false := decide_eq_false c10; clear c10; by_cases c13 : ((rd_T77 l1 x20_2).f0) ≥ a0
               ·rw [if_pos c13] at H; have c13b0 : decide (a0 ≤ ((rd_T77 l1 x20_2).f0)) = true := decide_eq_true c13; clear c13; obtain rfl := Option.some.inj H; have p115 : 0 ≤ (x20_2 : Int) := of_decide_eq_true z2_; have q115 : x20_2 < (l1.length : Int) := of_decide_eq_true z2_; obtain ⟨ad115, e115, hx115_0, hx115_1, hx115_2⟩ := at_T77 HR1.out x20_2 p115 q115; cases e115; replace hx115_0 := (HB.out.cell (World.block_lt_of_cell? w _ hx115_0)).trans hx115_0; replace hx115_1 := (HB.out.cell (World.block_lt_of_cell? w _ hx115_1)).trans hx115_1; replace hx115_2 := (HB.out.cell (World.block_lt_of_cell? w _ hx115_2)).trans hx115_2; replace p115 := eq_true p115; replace q115 := eq_true q115; go_wp2_with (first | ((with_reducible refine gate_dst (N := 6) rfl ?_); (try (refine gate_guard (by rfl) ?_; dsimp only)); refine box_event ?hg (N := 6) ?hd (cs := #[.int .i64 0, .int .i64 0, .int .i64 0]) (t := 77) ?hr ?_; (case hd => rfl); (case hg => rfl); (case hr => first | (go_simp; done) | (go_simp; rfl)); intro gb116 hg w14 hbox hb; have n0_ := Aside0.mk (below_step z0_ hb); have n1_ := Aside0.mk (hbox); have n2_ := Aside0.mk ((by rw [hg]; exact (below_size z0_) : w.heap.size ≤ gb116)); have n3_ := Aside0.mk ((by rw [hg]; exact (below_size z0_) : w.heap.size ≤ gb116)); clear HB; have HB := n0_; have BK116 := n1_; have GW116 := n2_; have GE116 := n3_; clear n0_ n1_ n2_ n3_; clear hb hbox hg; have hcz15_0 : w14.cell? ⟨gb116, 0, none⟩ = some (.int .i64 0) := (blk_cell BK116.out 0).trans rfl; have hcz15_1 : w14.cell? ⟨gb116, 1, none⟩ = some (.int .i64 0) := (blk_cell BK116.out 1).trans rfl; have hcz15_2 : w14.cell? ⟨gb116, 2, none⟩ = some (.int .i64 0) := (blk_cell BK116.out 2).trans rfl; have hfz15_0 := blk_frozen BK116.out 0; have hfz15_1 := blk_frozen BK116.out 1; have hfz15_2 := blk_frozen BK116.out 2)); go_ret; exact ⟨z3_, z35_⟩
               ·rw [if_neg c13] at H; have c13b0 : decide (a0 ≤ ((rd_T77 l1 x20_2).f0)) = false := decide_eq_false c13; clear c13; by_cases c16 : ((rd_T77 l1 x20_2).f1) < 0
                ·rw [if_pos c16] at H; have c16b0 : decide (((rd_T77 l1 x20_2).f1) < 0) = true := decide_eq_true c16; clear c16; obtain rfl := Option.some.inj H; have p115 : 0 ≤ (x20_2 : Int) := of_decide_eq_true z2_; have q115 : x20_2 < (l1.length : Int) := of_decide_eq_true z2_; obtain ⟨ad115, e115, hx115_0, hx115_1, hx115_2⟩ := at_T77 HR1.out x20_2 p115 q115; cases e115; replace hx115_0 := (HB.out.cell (World.block_lt_of_cell? w _ hx115_0)).trans hx115_0; replace hx115_1 := (HB.out.cell (World.block_lt_of_cell? w _ hx115_1)).trans hx115_1; replace hx115_2 := (HB.out.cell (World.block_lt_of_cell? w _ hx115_2)).trans hx115_2; replace p115 := eq_true p115; replace q115 := eq_true q115; go_wp2_with (first | ((with_reducible refine gate_dst (N := 6) rfl ?_); (try (refine gate_guard (by rfl) ?_; dsimp only)); refine box_event ?hg (N := 6) ?hd (cs := #[.int .i64 0, .int .i64 0, .int .i64 0]) (t := 77) ?hr ?_; (case hd => rfl); (case hg => rfl); (case hr => first | (go_simp; done) | (go_simp; rfl)); intro gb116 hg w17 hbox hb; have n0_ := Aside0.mk (below_step z0_ hb); have n1_ := Aside0.mk (hbox); have n2_ := Aside0.mk ((by rw [hg]; exact (below_size z0_) : w.heap.size ≤ gb116)); have n3_ := Aside0.mk ((by rw [hg]; exact (below_size z0_) : w.heap.size ≤ gb116)); clear HB; have HB := n0_; have BK116 := n1_; have GW116 := n2_; have GE116 := n3_; clear n0_ n1_ n2_ n3_; clear hb hbox hg; have hcz18_0 : w17.cell? ⟨gb116, 0, none⟩ = some (.int .i64 0) := (blk_cell BK116.out 0).trans rfl; have hcz18_1 : w17.cell? ⟨gb116, 1, none⟩ = some (.int .i64 0) := (blk_cell BK116.out 1).trans rfl; have hcz18_2 : w17.cell? ⟨gb116, 2, none⟩ = some (.int .i64 0) := (blk_cell BK116.out 2).trans rfl; have hfz18_0 := blk_frozen BK116.out 0; have hfz18_1 := blk_frozen BK116.out 1; have hfz18_2 := blk_frozen BK116.out 2)); go_ret; exact ⟨z3_, z35_⟩
                ·rw [if_neg c16] at H; have c16b0 : decide (((rd_T77 l1 x20_2).f1) < 0) = false := decide_eq_false c16; clear c16; by_cases c19 : ((rd_T77 l1 x20_2).f1) ≥ a0
                 ·rw [if_pos c19] at H; have c19b0 : decide (a0 ≤ ((rd_T77 l1 x20_2).f1)) = true := decide_eq_true c19; clear c19; obtain rfl := Option.some.inj H; have p115 : 0 ≤ (x20_2 : Int) := of_decide_eq_true z2_; have q115 : x20_2 < (l1.length : Int) := of_decide_eq_true z2_; obtain ⟨ad115, e115, hx115_0, hx115_1, hx115_2⟩ := at_T77 HR1.out x20_2 p115 q115; cases e115; replace hx115_0 := (HB.out.cell (World.block_lt_of_cell? w _ hx115_0)).trans hx115_0; replace hx115_1 := (HB.out.cell (World.block_lt_of_cell? w _ hx115_1)).trans hx115_1; replace hx115_2 := (HB.out.cell (World.block_lt_of_cell? w _ hx115_2)).trans hx115_2; replace p115 := eq_true p115; replace q115 := eq_true q115; go_wp2_with (first | ((with_reducible refine gate_dst (N := 6) rfl ?_); (try (refine gate_guard (by rfl) ?_; dsimp only)); refine box_event ?hg (N := 6) ?hd (cs := #[.int .i64 0, .int .i64 0, .int .i64 0]) (t := 77) ?hr ?_; (case hd => rfl); (case hg => rfl); (case hr => first | (go_simp; done) | (go_simp; rfl)); intro gb116 hg w20 hbox hb; have n0_ := Aside0.mk (below_step z0_ hb); have n1_ := Aside0.mk (hbox); have n2_ := Aside0.mk ((by rw [hg]; exact (below_size z0_) : w.heap.size ≤ gb116)); have n3_ := Aside0.mk ((by rw [hg]; exact (below_size z0_) : w.heap.size ≤ gb116)); clear HB; have HB := n0_; have BK116 := n1_; have GW116 := n2_; have GE116 := n3_; clear n0_ n1_ n2_ n3_; clear hb hbox hg; have hcz21_0 : w20.cell? ⟨gb116, 0, none⟩ = some (.int .i64 0) := (blk_cell BK116.out 0).trans rfl; have hcz21_1 : w20.cell? ⟨gb116, 1, none⟩ = some (.int .i64 0) := (blk_cell BK116.out 1).trans rfl; have hcz21_2 : w20.cell? ⟨gb116, 2, none⟩ = some (.int .i64 0) := (blk_cell BK116.out 2).trans rfl; have hfz21_0 := blk_frozen BK116.out 0; have hfz21_1 := blk_frozen BK116.out 1; have hfz21_2 := blk_frozen BK116.out 2)); go_ret; exact ⟨z3_, z35_⟩
                 ·rw [if_neg c19] at H; have c19b0 : decide (a0 ≤ ((rd_T77 l1 x20_2).f1)) = false := decide_eq_false c19; clear c19; by_cases c22 : ((rd_T77 l1 x20_2).f0) = ((rd_T77 l1 x20_2).f1)
                  ·rw [if_pos c22] at H; have c22b0 : (((rd_T77 l1 x20_2).f0) == ((rd_T77 l1 x20_2).f1)) = true := beq_iff_eq.mpr c22; have c22b1 : (((rd_T77 l1 x20_2).f0) != ((rd_T77 l1 x20_2).f1)) = false := bne_eq_false_iff_eq.mpr c22; clear c22; obtain rfl := Option.some.inj H; have p115 : 0 ≤ (x20_2 : Int) := of_decide_eq_true z2_; have q115 : x20_2 < (l1.length : Int) := of_decide_eq_true z2_; obtain ⟨ad115, e115, hx115_0, hx115_1, hx115_2⟩ := at_T77 HR1.out x20_2 p115 q115; cases e115; replace hx115_0 := (HB.out.cell (World.block_lt_of_cell? w _ hx115_0)).trans hx115_0; replace hx115_1 := (HB.out.cell (World.block_lt_of_cell? w _ hx115_1)).trans hx115_1; replace hx115_2 := (HB.out.cell (World.block_lt_of_cell? w _ hx115_2)).trans hx115_2; replace p115 := eq_true p115; replace q115 := eq_true q115; go_wp2_with (first | ((with_reducible refine gate_dst (N := 6) rfl ?_); (try (refine gate_guard (by rfl) ?_; dsimp only)); refine box_event ?hg (N := 6) ?hd (cs := #[.int .i64 0, .int .i64 0, .int .i64 0]) (t := 77) ?hr ?_; (case hd => rfl); (case hg => rfl); (case hr => first | (go_simp; done) | (go_simp; rfl)); intro gb116 hg w23 hbox hb; have n0_ := Aside0.mk (below_step z0_ hb); have n1_ := Aside0.mk (hbox); have n2_ := Aside0.mk ((by rw [hg]; exact (below_size z0_) : w.heap.size ≤ gb116)); have n3_ := Aside0.mk ((by rw [hg]; exact (below_size z0_) : w.heap.size ≤ gb116)); clear HB; have HB := n0_; have BK116 := n1_; have GW116 := n2_; have GE116 := n3_; clear n0_ n1_ n2_ n3_; clear hb hbox hg; have hcz24_0 : w23.cell? ⟨gb116, 0, none⟩ = some (.int .i64 0) := (blk_cell BK116.out 0).trans rfl; have hcz24_1 : w23.cell? ⟨gb116, 1, none⟩ = some (.int .i64 0) := (blk_cell BK116.out 1).trans rfl; have hcz24_2 : w23.cell? ⟨gb116, 2, none⟩ = some (.int .i64 0) := (blk_cell BK116.out 2).trans rfl; have hfz24_0 := blk_frozen BK116.out 0; have hfz24_1 := blk_frozen BK116.out 1; have hfz24_2 := blk_frozen BK116.out 2)); go_ret; exact ⟨z3_, z35_⟩
                  ·rw [if_neg c22] at H; have c22b0 : (((rd_T77 l1 x20_2).f0) == ((rd_T77 l1 x20_2).f1)) = false := beq_eq_false_iff_ne.mpr c22; have c22b1 : (((rd_T77 l1 x20_2).f0) != ((rd_T77 l1 x20_2).f1)) = true := bne_iff_ne.mpr c22; by_cases c25 : ((rd_T77 l1 x20_2).f2) < 1
                   ·rw [if_pos c25] at H; have c25b0 : decide (((rd_T77 l1 x20_2).f2) < 1) = true := decide_eq_true c25; clear c25; obtain rfl := Option.some.inj H; have p115 : 0 ≤ (x20_2 : Int) := of_decide_eq_true z2_; have q115 : x20_2 < (l1.length : Int) := of_decide_eq_true z2_; obtain ⟨ad115, e115, hx115_0, hx115_1, hx115_2⟩ := at_T77 HR1.out x20_2 p115 q115; cases e115; replace hx115_0 := (HB.out.cell (World.block_lt_of_cell? w _ hx115_0)).trans hx115_0; replace hx115_1 := (HB.out.cell (World.block_lt_of_cell? w _ hx115_1)).trans hx115_1; replace hx115_2 := (HB.out.cell (World.block_lt_of_cell? w _ hx115_2)).trans hx115_2; replace p115 := eq_true p115; replace q115 := eq_true q115; go_wp2_with (first | ((with_reducible refine gate_dst (N := 6) rfl ?_); (try (refine gate_guard (by rfl) ?_; dsimp only)); refine box_event ?hg (N := 6) ?hd (cs := #[.int .i64 0, .int .i64 0, .int .i64 0]) (t := 77) ?hr ?_; (case hd => rfl); (case hg => rfl); (case hr => first | (go_simp; done) | (go_simp; rfl)); intro gb116 hg w26 hbox hb; have n0_ := Aside0.mk (below_step z0_ hb); have n1_ := Aside0.mk (hbox); have n2_ := Aside0.mk ((by rw [hg]; exact (below_size z0_) : w.heap.size ≤ gb116)); have n3_ := Aside0.mk ((by rw [hg]; exact (below_size z0_) : w.heap.size ≤ gb116)); clear HB; have HB := n0_; have BK116 := n1_; have GW116 := n2_; have GE116 := n3_; clear n0_ n1_ n2_ n3_; clear hb hbox hg; have hcz27_0 : w26.cell? ⟨gb116, 0, none⟩ = some (.int .i64 0) := (blk_cell BK116.out 0).trans rfl; have hcz27_1 : w26.cell? ⟨gb116, 1, none⟩ = some (.int .i64 0) := (blk_cell BK116.out 1).trans rfl; have hcz27_2 : w26.cell? ⟨gb116, 2, none⟩ = some (.int .i64 0) := (blk_cell BK116.out 2).trans rfl; have hfz27_0 := blk_frozen BK116.out 0; have hfz27_1 := blk_frozen BK116.out 1; have hfz27_2 := blk_frozen BK116.out 2)); go_ret; exact ⟨z3_, z35_⟩
                   ·rw [if_neg c25] at H; have c25b0 : decide (((rd_T77 l1 x20_2).f2) < 1) = false := decide_eq_false c25; clear c25; by_cases c28 : ((rd_T77 l1 x20_2).f2) > 100000000
                    ·rw [if_pos c28] at H; have c28b0 : decide (100000000 < ((rd_T77 l1 x20_2).f2)) = true := decide_eq_true c28; clear c28; obtain rfl := Option.some.inj H; have p115 : 0 ≤ (x20_2 : Int) := of_decide_eq_true z2_; have q115 : x20_2 < (l1.length : Int) := of_decide_eq_true z2_; obtain ⟨ad115, e115, hx115_0, hx115_1, hx115_2⟩ := at_T77 HR1.out x20_2 p115 q115; cases e115; replace hx115_0 := (HB.out.cell (World.block_lt_of_cell? w _ hx115_0)).trans hx115_0; replace hx115_1 := (HB.out.cell (World.block_lt_of_cell? w _ hx115_1)).trans hx115_1; replace hx115_2 := (HB.out.cell (World.block_lt_of_cell? w _ hx115_2)).trans hx115_2; replace p115 := eq_true p115; replace q115 := eq_true q115; go_wp2_with (first | ((with_reducible refine gate_dst (N := 6) rfl ?_); (try (refine gate_guard (by rfl) ?_; dsimp only)); refine box_event ?hg (N := 6) ?hd (cs := #[.int .i64 0, .int .i64 0, .int .i64 0]) (t := 77) ?hr ?_; (case hd => rfl); (case hg => rfl); (case hr => first | (go_simp; done) | (go_simp; rfl)); intro gb116 hg w29 hbox hb; have n0_ := Aside0.mk (below_step z0_ hb); have n1_ := Aside0.mk (hbox); have n2_ := Aside0.mk ((by rw [hg]; exact (below_size z0_) : w.heap.size ≤ gb116)); have n3_ := Aside0.mk ((by rw [hg]; exact (below_size z0_) : w.heap.size ≤ gb116)); clear HB; have HB := n0_; have BK116 := n1_; have GW116 := n2_; have GE116 := n3_; clear n0_ n1_ n2_ n3_; clear hb hbox hg; have hcz30_0 : w29.cell? ⟨gb116, 0, none⟩ = some (.int .i64 0) := (blk_cell BK116.out 0).trans rfl; have hcz30_1 : w29.cell? ⟨gb116, 1, none⟩ = some (.int .i64 0) := (blk_cell BK116.out 1).trans rfl; have hcz30_2 : w29.cell? ⟨gb116, 2, none⟩ = some (.int .i64 0) := (blk_cell BK116.out 2).trans rfl; have hfz30_0 := blk_frozen BK116.out 0; have hfz30_1 := blk_frozen BK116.out 1; have hfz30_2 := blk_frozen BK116.out 2)); go_ret; exact ⟨z3_, z35_⟩
                    ·rw [if_neg c28] at H; have c28b0 : decide (100000000 < ((rd_T77 l1 x20_2).f2)) = false := decide_eq_false c28; clear c28; have H' := Aside0.mk H; clear H; have p115 : 0 ≤ (x20_2 : Int) := of_decide_eq_true z2_; have q115 : x20_2 < (l1.length : Int) := of_decide_eq_true z2_; obtain ⟨ad115, e115, hx115_0, hx115_1, hx115_2⟩ := at_T77 HR1.out x20_2 p115 q115; cases e115; replace hx115_0 := (HB.out.cell (World.block_lt_of_cell? w _ hx115_0)).trans hx115_0; replace hx115_1 := (HB.out.cell (World.block_lt_of_cell? w _ hx115_1)).trans hx115_1; replace hx115_2 := (HB.out.cell (World.block_lt_of_cell? w _ hx115_2)).trans hx115_2; replace p115 := eq_true p115; replace q115 := eq_true q115; go_wp2_with (first | ((with_reducible refine gate_dst (N := 6) rfl ?_); (try (refine gate_guard (by rfl) ?_; dsimp only)); refine box_event ?hg (N := 6) ?hd (cs := #[.int .i64 0, .int .i64 0, .int .i64 0]) (t := 77) ?hr ?_; (case hd => rfl); (case hg => rfl); (case hr => first | (go_simp; done) | (go_simp; rfl)); intro gb116 hg w31 hbox hb; have n0_ := Aside0.mk (below_step z0_ hb); have n1_ := Aside0.mk (hbox); have n2_ := Aside0.mk ((by rw [hg]; exact (below_size z0_) : w.heap.size ≤ gb116)); have n3_ := Aside0.mk ((by rw [hg]; exact (below_size z0_) : w.heap.size ≤ gb116)); clear HB; have HB := n0_; have BK116 := n1_; have GW116 := n2_; have GE116 := n3_; clear n0_ n1_ n2_ n3_; clear hb hbox hg; have hcz32_0 : w31.cell? ⟨gb116, 0, none⟩ = some (.int .i64 0) := (blk_cell BK116.out 0).trans rfl; have hcz32_1 : w31.cell? ⟨gb116, 1, none⟩ = some (.int .i64 0) := (blk_cell BK116.out 1).trans rfl; have hcz32_2 : w31.cell? ⟨gb116, 2, none⟩ = some (.int .i64 0) := (blk_cell BK116.out 2).trans rfl; have hfz32_0 := blk_frozen BK116.out 0; have hfz32_1 := blk_frozen BK116.out 1; have hfz32_2 := blk_frozen BK116.out 2)); go_roundg k2
                     case measure => have := HJ2.out; have := HK2.out; omega
                     case rel => exact ⟨(wrap64 (x20_2 + 1)), z5_, H', ⟨by have := HJ2.out; have := HK2.out; omega⟩, ⟨z35_⟩⟩
             ·rw [if_neg c9] at H; exact absurd H (by simp)
            ·rw [if_neg c8] at H; exact absurd H (by simp)
           ·rw [if_neg c7] at H; have c7b0 : decide (x20_2 < (l1.length : Int)) = false := decide_eq_false c7; clear c7; obtain rfl := Option.some.inj H; go_wp2; go_ret; exact ⟨z3_, z0_⟩

end Go.Proofs.YtfjmljgbdejghaaDoor.MNets
