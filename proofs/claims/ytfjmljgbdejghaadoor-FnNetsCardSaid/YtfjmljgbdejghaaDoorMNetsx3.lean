-- by a program of this session, for this claim
import Derived.Test.YtfjmljgbdejghaaDoorMNetsx0
import Derived.Test.YtfjmljgbdejghaaDoorMNetsx2
namespace Go.Proofs.YtfjmljgbdejghaaDoor.MNets
open Go.RowKit Go.Proofs.YtfjmljgbdejghaaDoorW.PrintWords Go.Proofs.YtfjmljgbdejghaaDoorW.PrintLast Go.Proofs.YtfjmljgbdejghaaDoorW.PrintMore
attribute [local go_sem] max2_int min2_int max_two min_two max_three min_three max_four min_four   -- for this text's walks alone
set_option linter.unusedVariables false
set_option linter.unusedSimpArgs false

/-! ### impl_DebtsText: function 15 -/
def impl_DebtsText.l0 : Nat → ByteArray → List (S77) → Int → Int → Option (ByteArray)
  | 0, _, _, _, _ => none
  | k + 1, x3, x9, x10, x11 => if x11 < x10 then (if 0 ≤ x11 then (if x11 < (x9.length : Int) then ((impl_decimal.f ((rd_T77 x9 x11).f0)).bind fun t120 => (if t120.size + 1 ≤ 9223372036854775807 then ((impl_decimal.f ((rd_T77 x9 x11).f1)).bind fun t121 => (if (t120 ++ (⟨#[32]⟩ : ByteArray)).size + t121.size ≤ 9223372036854775807 then (if ((t120 ++ (⟨#[32]⟩ : ByteArray)) ++ t121).size + 1 ≤ 9223372036854775807 then ((impl_AmountText.f k ((rd_T77 x9 x11).f2)).bind fun t122 => (if (((t120 ++ (⟨#[32]⟩ : ByteArray)) ++ t121) ++ (⟨#[32]⟩ : ByteArray)).size + t122.size ≤ 9223372036854775807 then (if ((((t120 ++ (⟨#[32]⟩ : ByteArray)) ++ t121) ++ (⟨#[32]⟩ : ByteArray)) ++ t122).size + 1 ≤ 9223372036854775807 then (if x3.size + (((((t120 ++ (⟨#[32]⟩ : ByteArray)) ++ t121) ++ (⟨#[32]⟩ : ByteArray)) ++ t122) ++ (⟨#[10]⟩ : ByteArray)).size ≤ 9223372036854775807 then (impl_DebtsText.l0 k (x3 ++ (((((t120 ++ (⟨#[32]⟩ : ByteArray)) ++ t121) ++ (⟨#[32]⟩ : ByteArray)) ++ t122) ++ (⟨#[10]⟩ : ByteArray))) x9 x10 (wrap64 (x11 + 1))) else (none)) else (none)) else (none))) else (none)) else (none))) else (none))) else (none)) else (none)) else (some x3)
def impl_DebtsText.f (k : Nat) (l0 : List (S77)) : Option (ByteArray) := (impl_ValidDebts.f k 16 l0).bind fun t117 => (if t117 = true then (impl_DebtsText.l0 k (⟨#[]⟩ : ByteArray) l0 (l0.length : Int) 0) else (some (⟨#[]⟩ : ByteArray)))
theorem impl_DebtsText.mono_l : ∀ k, (∀ y0 y1 y2 y3, LeO (impl_DebtsText.l0 k y0 y1 y2 y3) (impl_DebtsText.l0 (k + 1) y0 y1 y2 y3))
  | 0 => fun _ _ _ _ r h => by simp [impl_DebtsText.l0] at h
  | k + 1 => by
    have ih0 := impl_DebtsText.mono_l k
    · intro y0 y1 y2 y3
      unfold impl_DebtsText.l0
      repeat' first
      | (with_reducible exact ih0 _ _ _ _)
      | (with_reducible exact impl_AmountText.mono _ _)
      | (with_reducible exact impl_ValidDebts.mono _ _ _)
      | (with_reducible exact LeO.refl _)
      | (with_reducible exact LeO.none _)
      | (with_reducible refine LeO.ite ?_ ?_)
      | (with_reducible refine LeO.bind ?_ (fun _ => ?_))
      | exact ih0 _ _ _ _
      | exact impl_AmountText.mono _ _
      | exact impl_ValidDebts.mono _ _ _
      | exact LeO.none _
      | refine LeO.ite ?_ ?_
      | refine LeO.bind ?_ (fun _ => ?_)
theorem impl_DebtsText.mono : ∀ a0 k, LeO (impl_DebtsText.f k a0) (impl_DebtsText.f (k + 1) a0) := by
  intro a0 k; have ih0 := impl_DebtsText.mono_l k; unfold impl_DebtsText.f
  repeat' first
      | (with_reducible exact ih0 _ _ _ _)
      | (with_reducible exact impl_AmountText.mono _ _)
      | (with_reducible exact impl_ValidDebts.mono _ _ _)
      | (with_reducible exact LeO.refl _)
      | (with_reducible exact LeO.none _)
      | (with_reducible refine LeO.ite ?_ ?_)
      | (with_reducible refine LeO.bind ?_ (fun _ => ?_))
      | exact ih0 _ _ _ _
      | exact impl_AmountText.mono _ _
      | exact impl_ValidDebts.mono _ _ _
      | exact LeO.none _
      | refine LeO.ite ?_ ?_
      | refine LeO.bind ?_ (fun _ => ?_)
def impl_DebtsText.T7 : Bool × List (List Nat × List Nat) := (true, [([], []), ([], []), ([1], [1]), ([2], [2]), ([3], [3]), ([], []), ([5], [5]), ([6, 3], [6]), ([4, 7], [4, 7]), ([8], [8]), ([], []), ([10], [10]), ([11, 7], [11]), ([9, 12], [9, 12]), ([13], [13]), ([0, 14], [0, 14]), ([15, 12, 0, 1, 2, 3, 4, 5, 6, 7, 8, 9, 10, 11, 12, 13, 14, 15], [0, 15])])
def impl_DebtsText.B7 : List Nat := [0, 0, 2, 6, 14, 0, 32, 110, 254, 510, 0, 1024, 3310, 8190, 16382, 32767, 65535]
theorem impl_DebtsText.tab7 : rtab .any (opsOf Tryd.f15 7) = impl_DebtsText.T7 := by kernel_rfl
theorem impl_DebtsText.bits7 : waitsOk impl_DebtsText.T7.2 impl_DebtsText.B7 = true := by kernel_rfl
set_option maxHeartbeats 8000000 in
set_option maxRecDepth 100000 in
theorem impl_DebtsText.calls (k : Nat) (A0 : Option Addr) (c0 : Nat) (l0 : List (S77)) (r : ByteArray) (w : World) (hr0 : Kd.C k77 w A0 l0.length l0) (hc0 : l0.length ≤ c0) (hT : Tt.TT w) (h : impl_DebtsText.f k l0 = some r) :
    Calls Tryd.prog 15 #[.slice A0 l0.length c0] w fun e w' => e = .returned (.string r) ∧ Below w.heap.size w w' := by
  have hu77 := Tryd.underlying77; have HR0 := Aside0.mk hr0; have HC0 := Aside0.mk hc0; clear hr0 hc0; have HB := Aside0.mk (Below.refl w.heap.size w); have H : ((impl_ValidDebts.f k 16 l0).bind fun t117 => (if t117 = true then (impl_DebtsText.l0 k (⟨#[]⟩ : ByteArray) l0 (l0.length : Int) 0) else (some (⟨#[]⟩ : ByteArray)))) = some r := h; clear h; replace H := Option.bind_eq_some_iff.mp H; obtain ⟨t117, A20, H⟩ := H; replace H : (if t117 = true then (impl_DebtsText.l0 k (⟨#[]⟩ : ByteArray) l0 (l0.length : Int) 0) else (some (⟨#[]⟩ : ByteArray))) = some r := H; have A2 := Aside0.mk A20; clear A20; by_cases c3 : t117 = true
  ·subst c3; (have H1 : (impl_DebtsText.l0 k (⟨#[]⟩ : ByteArray) l0 (l0.length : Int) 0) = some r := z39_); clear H; have H := H1; clear H1; have H' := Aside0.mk H; clear H; go_enter Tryd.func15, Tryd.ntmps15; go_wp2_with (first | ((with_reducible refine gate_callee (f := 50) rfl ?_); refine goesL_ (some 7) rfl rfl Tryd.func50 z4_ rfl #[.int .i64 16, .slice A0 l0.length c0] rfl z1_ ?_; (with_reducible refine (impl_ValidDebts.calls k 16 _ _ l0 true _ ?side1 ?side2 A2.out).mono ?_); (case side1 => repeat (first | exact HR0.out | (with_reducible refine Kd.C_alloc ?_ _) | (with_reducible refine Kd.C_drewN ?_ _) | (with_reducible refine Kd.C_drew ?_))); (case side2 => exact HC0.out); rintro e w4 ⟨rfl, hb⟩; refine ⟨_, rfl, ?_⟩; have n0_ := Aside0.mk (below_step z0_ hb); clear HB; have HB := n0_; clear n0_; (try clear hb); (try clear hb2); (try clear hk); (try clear hi))); go_loopg [3, 11] k (fun kq v3 v11 w' => ∃ (x3_1 : ByteArray) (x11_1 : Int), v3 = .string x3_1 ∧ v11 = .int .i64 x11_1 ∧ Aside0 (impl_DebtsText.l0 kq x3_1 l0 (l0.length : Int) x11_1 = some r) ∧ Aside0 (kq ≤ k) ∧ Aside0 (Below w.heap.size w w'))
   case atStart => exact ⟨((⟨#[]⟩ : ByteArray)), (0), z5_, z5_, H', ⟨Nat.le_refl _⟩, ⟨z0_⟩⟩
   case round =>
     clear H'; (try clear c1); (try clear p2); (try clear c3); obtain ⟨x3_1, x11_1, rfl, rfl, HA, HK1, HB⟩ := hrel
     cases gk with
     | zero => exact absurd HA.out (by simp [impl_DebtsText.l0])
     | succ k1 =>
       have H := HA.out; clear HA; simp only [impl_DebtsText.l0] at H; by_cases c5 : x11_1 < (l0.length : Int)
       ·rw [if_pos c5] at H; have c5b0 : decide (x11_1 < (l0.length : Int)) = true := decide_eq_true c5; clear c5; by_cases c6 : 0 ≤ x11_1
        ·rw [if_pos c6] at H; have c6b0 : decide (0 ≤ x11_1) = true := decide_eq_true c6; clear c6; by_cases c7 : x11_1 < (l0.length : Int)
         ·rw [if_pos c7] at H; have c7b0 : decide (x11_1 < (l0.length : Int)) = true := decide_eq_true c7; clear c7; replace H := Option.bind_eq_some_iff.mp H; obtain ⟨t120, A80, H⟩ := H; replace H : (if t120.size + 1 ≤ 9223372036854775807 then ((impl_decimal.f ((rd_T77 l0 x11_1).f1)).bind fun t121 => (if (t120 ++ (⟨#[32]⟩ : ByteArray)).size + t121.size ≤ 9223372036854775807 then (if ((t120 ++ (⟨#[32]⟩ : ByteArray)) ++ t121).size + 1 ≤ 9223372036854775807 then ((impl_AmountText.f k1 ((rd_T77 l0 x11_1).f2)).bind fun t122 => (if (((t120 ++ (⟨#[32]⟩ : ByteArray)) ++ t121) ++ (⟨#[32]⟩ : ByteArray)).size + t122.size ≤ 9223372036854775807 then (if ((((t120 ++ (⟨#[32]⟩ : ByteArray)) ++ t121) ++ (⟨#[32]⟩ : ByteArray)) ++ t122).size + 1 ≤ 9223372036854775807 then (if x3_1.size + (((((t120 ++ (⟨#[32]⟩ : ByteArray)) ++ t121) ++ (⟨#[32]⟩ : ByteArray)) ++ t122) ++ (⟨#[10]⟩ : ByteArray)).size ≤ 9223372036854775807 then (impl_DebtsText.l0 k1 (x3_1 ++ (((((t120 ++ (⟨#[32]⟩ : ByteArray)) ++ t121) ++ (⟨#[32]⟩ : ByteArray)) ++ t122) ++ (⟨#[10]⟩ : ByteArray))) l0 (l0.length : Int) (wrap64 (x11_1 + 1))) else (none)) else (none)) else (none))) else (none)) else (none))) else (none)) = some r := H; have A8 := Aside0.mk A80; clear A80; by_cases c9 : t120.size + 1 ≤ 9223372036854775807
          ·rw [if_pos c9] at H; have c9b0 := eq_true c9; have c9b1 : decide (t120.size + 1 ≤ 9223372036854775807) = true := decide_eq_true c9; (try have c9b2 : (9223372036854775807 < t120.size + 1) = False := eq_false (Nat.not_lt.2 c9)); (try (have c9b3 := c9b2; simp only [go_sem, List.size_toArray, List.length_cons, List.length_nil, Nat.zero_add] at c9b3)); replace H := Option.bind_eq_some_iff.mp H; obtain ⟨t121, A100, H⟩ := H; replace H : (if (t120 ++ (⟨#[32]⟩ : ByteArray)).size + t121.size ≤ 9223372036854775807 then (if ((t120 ++ (⟨#[32]⟩ : ByteArray)) ++ t121).size + 1 ≤ 9223372036854775807 then ((impl_AmountText.f k1 ((rd_T77 l0 x11_1).f2)).bind fun t122 => (if (((t120 ++ (⟨#[32]⟩ : ByteArray)) ++ t121) ++ (⟨#[32]⟩ : ByteArray)).size + t122.size ≤ 9223372036854775807 then (if ((((t120 ++ (⟨#[32]⟩ : ByteArray)) ++ t121) ++ (⟨#[32]⟩ : ByteArray)) ++ t122).size + 1 ≤ 9223372036854775807 then (if x3_1.size + (((((t120 ++ (⟨#[32]⟩ : ByteArray)) ++ t121) ++ (⟨#[32]⟩ : ByteArray)) ++ t122) ++ (⟨#[10]⟩ : ByteArray)).size ≤ 9223372036854775807 then (impl_DebtsText.l0 k1 (x3_1 ++ (((((t120 ++ (⟨#[32]⟩ : ByteArray)) ++ t121) ++ (⟨#[32]⟩ : ByteArray)) ++ t122) ++ (⟨#[10]⟩ : ByteArray))) l0 (l0.length : Int) (wrap64 (x11_1 + 1))) else (none)) else (none)) else (none))) else (none)) else (none)) = some r := H; have A10 := Aside0.mk A100; clear A100; by_cases c11 : (t120 ++ (⟨#[32]⟩ : ByteArray)).size + t121.size ≤ 9223372036854775807
           ·rw [if_pos c11] at H; have c11b0 := eq_true c11; have c11b1 : decide ((t120 ++ (⟨#[32]⟩ : ByteArray)).size + t121.size ≤ 9223372036854775807) = true := decide_eq_true c11; (try have c11b2 : (9223372036854775807 < (t120 ++ (⟨#[32]⟩ : ByteArray)).size + t121.size) = False := eq_false (Nat.not_lt.2 c11)); (try (have c11b3 := c11b2; simp only [go_sem, List.size_toArray, List.length_cons, List.length_nil, Nat.zero_add] at c11b3)); (try have c11b5 : (9223372036854775807 < t120.size + 1 + t121.size) = False := eq_false (by have h_ := c11; simp only [go_sem, List.size_toArray, List.length_cons, List.length_nil, Nat.zero_add, ByteArray.size_append, ByteArray.size_extract] at h_; omega)); by_cases c12 : ((t120 ++ (⟨#[32]⟩ : ByteArray)) ++ t121).size + 1 ≤ 9223372036854775807
            ·rw [if_pos c12] at H; have c12b0 := eq_true c12; have c12b1 : decide (((t120 ++ (⟨#[32]⟩ : ByteArray)) ++ t121).size + 1 ≤ 9223372036854775807) = true := decide_eq_true c12; (try have c12b2 : (9223372036854775807 < ((t120 ++ (⟨#[32]⟩ : ByteArray)) ++ t121).size + 1) = False := eq_false (Nat.not_lt.2 c12)); (try (have c12b3 := c12b2; simp only [go_sem, List.size_toArray, List.length_cons, List.length_nil, Nat.zero_add] at c12b3)); (try have c12b5 : (9223372036854775807 < (t120.size + 1) + t121.size + 1) = False := eq_false (by have h_ := c12; simp only [go_sem, List.size_toArray, List.length_cons, List.length_nil, Nat.zero_add, ByteArray.size_append, ByteArray.size_extract] at h_; omega)); replace H := Option.bind_eq_some_iff.mp H; obtain ⟨t122, A130, H⟩ := H; replace H : (if (((t120 ++ (⟨#[32]⟩ : ByteArray)) ++ t121) ++ (⟨#[32]⟩ : ByteArray)).size + t122.size ≤ 9223372036854775807 then (if ((((t120 ++ (⟨#[32]⟩ : ByteArray)) ++ t121) ++ (⟨#[32]⟩ : ByteArray)) ++ t122).size + 1 ≤ 9223372036854775807 then (if x3_1.size + (((((t120 ++ (⟨#[32]⟩ : ByteArray)) ++ t121) ++ (⟨#[32]⟩ : ByteArray)) ++ t122) ++ (⟨#[10]⟩ : ByteArray)).size ≤ 9223372036854775807 then (impl_DebtsText.l0 k1 (x3_1 ++ (((((t120 ++ (⟨#[32]⟩ : ByteArray)) ++ t121) ++ (⟨#[32]⟩ : ByteArray)) ++ t122) ++ (⟨#[10]⟩ : ByteArray))) l0 (l0.length : Int) (wrap64 (x11_1 + 1))) else (none)) else (none)) else (none)) = some r := H; have A13 := Aside0.mk A130; clear A130; by_cases c14 : (((t120 ++ (⟨#[32]⟩ : ByteArray)) ++ t121) ++ (⟨#[32]⟩ : ByteArray)).size + t122.size ≤ 9223372036854775807
             ·rw [if_pos c14] at H; have c14b0 := eq_true c14; have c14b1 : decide ((((t120 ++ (⟨#[32]⟩ : ByteArray)) ++ t121) ++ (⟨#[32]⟩ : ByteArray)).size + t122.size ≤ 9223372036854775807) = true := decide_eq_true c14; (try have c14b2 : (9223372036854775807 < (((t120 ++ (⟨#[32]⟩ : ByteArray)) ++ t121) ++ (⟨#[32]⟩ : ByteArray)).size + t122.size) = False := eq_false (Nat.not_lt.2 c14)); (try (have c14b3 := c14b2; simp only [go_sem, List.size_toArray, List.length_cons, List.length_nil, Nat.zero_add] at c14b3)); (try have c14b5 : (9223372036854775807 < ((t120.size + 1) + t121.size) + 1 + t122.size) = False := eq_false (by have h_ := c14; simp only [go_sem, List.size_toArray, List.length_cons, List.length_nil, Nat.zero_add, ByteArray.size_append, ByteArray.size_extract] at h_; omega)); by_cases c15 : ((((t120 ++ (⟨#[32]⟩ : ByteArray)) ++ t121) ++ (⟨#[32]⟩ : ByteArray)) ++ t122).size + 1 ≤ 9223372036854775807
              ·rw [if_pos c15] at H; have c15b0 := eq_true c15; have c15b1 : decide (((((t120 ++ (⟨#[32]⟩ : ByteArray)) ++ t121) ++ (⟨#[32]⟩ : ByteArray)) ++ t122).size + 1 ≤ 9223372036854775807) = true := decide_eq_true c15; (try have c15b2 : (9223372036854775807 < ((((t120 ++ (⟨#[32]⟩ : ByteArray)) ++ t121) ++ (⟨#[32]⟩ : ByteArray)) ++ t122).size + 1) = False := eq_false (Nat.not_lt.2 c15)); (try (have c15b3 := c15b2; simp only [go_sem, List.size_toArray, List.length_cons, List.length_nil, Nat.zero_add] at c15b3)); (try have c15b5 : (9223372036854775807 < (((t120.size + 1) + t121.size) + 1) + t122.size + 1) = False := eq_false (by have h_ := c15; simp only [go_sem, List.size_toArray, List.length_cons, List.length_nil, Nat.zero_add, ByteArray.size_append, ByteArray.size_extract] at h_; omega)); by_cases c16 : x3_1.size + (((((t120 ++ (⟨#[32]⟩ : ByteArray)) ++ t121) ++ (⟨#[32]⟩ : ByteArray)) ++ t122) ++ (⟨#[10]⟩ : ByteArray)).size ≤ 9223372036854775807
               ·rw [if_pos c16] at H; have c16b0 := eq_true c16; have c16b1 : decide (x3_1.size + (((((t120 ++ (⟨#[32]⟩ : ByteArray)) ++ t121) ++ (⟨#[32]⟩ : ByteArray)) ++ t122) ++ (⟨#[10]⟩ : ByteArray)).size ≤ 9223372036854775807) = true := decide_eq_true c16; (try have c16b2 : (9223372036854775807 < x3_1.size + (((((t120 ++ (⟨#[32]⟩ : ByteArray)) ++ t121) ++ (⟨#[32]⟩ : ByteArray)) ++ t122) ++ (⟨#[10]⟩ : ByteArray)).size) = False := eq_false (Nat.not_lt.2 c16)); (try (have c16b3 := c16b2; simp only [go_sem, List.size_toArray, List.length_cons, List.length_nil, Nat.zero_add] at c16b3)); (try have c16b5 : (9223372036854775807 < x3_1.size + (((((t120.size + 1) + t121.size) + 1) + t122.size) + 1)) = False := eq_false (by have h_ := c16; simp only [go_sem, List.size_toArray, List.length_cons, List.length_nil, Nat.zero_add, ByteArray.size_append, ByteArray.size_extract] at h_; omega)); have H' := Aside0.mk H; clear H; have p118 : 0 ≤ (x11_1 : Int) := of_decide_eq_true z2_; have q118 : x11_1 < (l0.length : Int) := of_decide_eq_true z2_; obtain ⟨ad118, e118, hx118_0, hx118_1, hx118_2⟩ := at_T77 HR0.out x11_1 p118 q118; cases e118; replace hx118_0 := (HB.out.cell (World.block_lt_of_cell? w _ hx118_0)).trans hx118_0; replace hx118_1 := (HB.out.cell (World.block_lt_of_cell? w _ hx118_1)).trans hx118_1; replace hx118_2 := (HB.out.cell (World.block_lt_of_cell? w _ hx118_2)).trans hx118_2; replace p118 := eq_true p118; replace q118 := eq_true q118; (try go_wp2_with (first | ((with_reducible refine gate_dst (N := 5) rfl ?_); refine box_event ?hg (N := 5) ?hd (cs := #[.int .i64 0, .int .i64 0, .int .i64 0]) (t := 77) ?hr ?_; (case hd => rfl); (case hg => rfl); (case hr => first | (go_simp; done) | (go_simp; rfl)); intro gb119 hg w17 hbox hb; have n0_ := Aside0.mk (below_step z0_ hb); have n1_ := Aside0.mk (hbox); have n2_ := Aside0.mk ((by rw [hg]; exact (below_size z0_) : w.heap.size ≤ gb119)); have n3_ := Aside0.mk ((by rw [hg]; exact (below_size z0_) : w.heap.size ≤ gb119)); clear HB; have HB := n0_; have BK119 := n1_; have GW119 := n2_; have GE119 := n3_; clear n0_ n1_ n2_ n3_; clear hb hbox hg; have hcz18_0 : w17.cell? ⟨gb119, 0, none⟩ = some (.int .i64 0) := (blk_cell BK119.out 0).trans rfl; have hcz18_1 : w17.cell? ⟨gb119, 1, none⟩ = some (.int .i64 0) := (blk_cell BK119.out 1).trans rfl; have hcz18_2 : w17.cell? ⟨gb119, 2, none⟩ = some (.int .i64 0) := (blk_cell BK119.out 2).trans rfl; have hfz18_0 := blk_frozen BK119.out 0; have hfz18_1 := blk_frozen BK119.out 1; have hfz18_2 := blk_frozen BK119.out 2))); have n0_ : Aside0 ((((w17.setCell ⟨gb119, 0, none⟩ (.int .i64 ((rd_T77 l0 x11_1).f0))).setCell ⟨gb119, 1, none⟩ (.int .i64 ((rd_T77 l0 x11_1).f1))).setCell ⟨gb119, 2, none⟩ (.int .i64 ((rd_T77 l0 x11_1).f2))).heap[gb119]? = some (.cells #[.int .i64 ((rd_T77 l0 x11_1).f0), .int .i64 ((rd_T77 l0 x11_1).f1), .int .i64 ((rd_T77 l0 x11_1).f2)] 77 (0, 0))) := ⟨by (with_reducible repeat (first | refine blk_drewN ?_ _ | refine blk_drew ?_ | refine blk_alloc ?_ _)); refine blk_put (cs := #[.int .i64 ((rd_T77 l0 x11_1).f0), .int .i64 ((rd_T77 l0 x11_1).f1), .int .i64 0]) ?_ 2 _ rfl; (with_reducible repeat (first | refine blk_drewN ?_ _ | refine blk_drew ?_ | refine blk_alloc ?_ _)); refine blk_put (cs := #[.int .i64 ((rd_T77 l0 x11_1).f0), .int .i64 0, .int .i64 0]) ?_ 1 _ rfl; (with_reducible repeat (first | refine blk_drewN ?_ _ | refine blk_drew ?_ | refine blk_alloc ?_ _)); refine blk_put (cs := #[.int .i64 0, .int .i64 0, .int .i64 0]) ?_ 0 _ rfl; (with_reducible repeat (first | refine blk_drewN ?_ _ | refine blk_drew ?_ | refine blk_alloc ?_ _)); exact BK119.out⟩; have n1_ : Aside0 (Below w.heap.size w (((w17.setCell ⟨gb119, 0, none⟩ (.int .i64 ((rd_T77 l0 x11_1).f0))).setCell ⟨gb119, 1, none⟩ (.int .i64 ((rd_T77 l0 x11_1).f1))).setCell ⟨gb119, 2, none⟩ (.int .i64 ((rd_T77 l0 x11_1).f2)))) := ⟨z34_⟩; (try clear BK119); (try clear HB); generalize (((w17.setCell ⟨gb119, 0, none⟩ (.int .i64 ((rd_T77 l0 x11_1).f0))).setCell ⟨gb119, 1, none⟩ (.int .i64 ((rd_T77 l0 x11_1).f1))).setCell ⟨gb119, 2, none⟩ (.int .i64 ((rd_T77 l0 x11_1).f2))) = w19 at n0_ n1_ ⊢; have BK119 := n0_; have HB := n1_; clear n0_ n1_; have n0_ := Aside0.mk (blk_drew BK119.out); have n1_ := Aside0.mk (below_drew1 HB.out); clear BK119; clear HB; have BK119 := n0_; have HB := n1_; clear n0_ n1_; refine start_ (n := 17) (S := fun w' => w'.cell? ⟨gb119, 0, none⟩ = some (.int .i64 ((rd_T77 l0 x11_1).f0)) ∧ w'.cell? ⟨gb119, 1, none⟩ = some (.int .i64 ((rd_T77 l0 x11_1).f1)) ∧ w'.cell? ⟨gb119, 2, none⟩ = some (.int .i64 ((rd_T77 l0 x11_1).f2))) (ds := []) #[false, false, false, false, false, false, false, false, false, false, false, false, false, false, false, false, false] z4_ rfl rfl ⟨(blk_cell BK119.out 0).trans rfl, (blk_cell BK119.out 1).trans rfl, (blk_cell BK119.out 2).trans rfl⟩ (fun hHeld => ?_); refine with_tabW impl_DebtsText.tab7 impl_DebtsText.bits7 (fun HT_ HW_ => ?_); generalize w19.drew = w20 at BK119 HB hHeld ⊢; refine pure_ (i := 0) (N := some 15) (v := ?_) (a' := ?_) #[true, false, false, false, false, false, false, false, false, false, false, false, false, false, false, false, false] rfl rfl (any_of HT_.out z4_) (fun _ _ _ h => h) (Or.inl ⟨by rfl, ?_⟩) ?_ ?_; rotate_left
                ·intro w'; go_simp; with_reducible rfl
                rotate_left
                ·simp only [Act.put, List.setIfInBounds_toArray, List.set_cons_zero, List.set_cons_succ, i64_w, i32_w]; rfl
                refine pure_ (i := 1) (N := some 16) (v := ?_) (a' := ?_) #[true, true, false, false, false, false, false, false, false, false, false, false, false, false, false, false, false] rfl rfl (any_of HT_.out z4_) (fun _ _ _ h => h) (Or.inl ⟨by rfl, ?_⟩) ?_ ?_; rotate_left
                ·intro w'; go_simp; with_reducible rfl
                rotate_left
                ·simp only [Act.put, List.setIfInBounds_toArray, List.set_cons_zero, List.set_cons_succ, i64_w, i32_w]; rfl
                refine pure_ (i := 5) (N := some 20) (v := ?_) (a' := ?_) #[true, true, false, false, false, true, false, false, false, false, false, false, false, false, false, false, false] rfl rfl (any_of HT_.out z4_) (fun _ _ _ h => h) (Or.inl ⟨by rfl, ?_⟩) ?_ ?_; rotate_left
                ·intro w'; go_simp; with_reducible rfl
                rotate_left
                ·simp only [Act.put, List.setIfInBounds_toArray, List.set_cons_zero, List.set_cons_succ, i64_w, i32_w]; rfl
                refine pure_ (i := 10) (N := some 25) (v := ?_) (a' := ?_) #[true, true, false, false, false, true, false, false, false, false, true, false, false, false, false, false, false] rfl rfl (any_of HT_.out z4_) (fun _ _ _ h => h) (Or.inl ⟨by rfl, ?_⟩) ?_ ?_; rotate_left
                ·intro w'; go_simp; with_reducible rfl
                rotate_left
                ·simp only [Act.put, List.setIfInBounds_toArray, List.set_cons_zero, List.set_cons_succ, i64_w, i32_w]; rfl
                refine take_ (i := 2) (N := some 17) (v := ?_) (a' := ?_) #[true, true, true, false, false, true, false, false, false, false, true, false, false, false, false, false, false] rfl rfl (take_ofW HT_.out HW_.out z4_) (fun _ _ _ h => h) (Or.inl ⟨by rfl, ?_⟩) hHeld ?_ ?_; rotate_left
                ·rintro w' ⟨s0, s1, s2⟩; go_simp; with_reducible rfl
                rotate_left
                ·simp only [Act.put, List.setIfInBounds_toArray, List.set_cons_zero, List.set_cons_succ, i64_w, i32_w]; rfl
                refine take_ (i := 6) (N := some 21) (v := ?_) (a' := ?_) #[true, true, true, false, false, true, true, false, false, false, true, false, false, false, false, false, false] rfl rfl (take_ofW HT_.out HW_.out z4_) (fun _ _ _ h => h) (Or.inl ⟨by rfl, ?_⟩) hHeld ?_ ?_; rotate_left
                ·rintro w' ⟨s0, s1, s2⟩; go_simp; with_reducible rfl
                rotate_left
                ·simp only [Act.put, List.setIfInBounds_toArray, List.set_cons_zero, List.set_cons_succ, i64_w, i32_w]; rfl
                refine take_ (i := 11) (N := some 26) (v := ?_) (a' := ?_) #[true, true, true, false, false, true, true, false, false, false, true, true, false, false, false, false, false] rfl rfl (take_ofW HT_.out HW_.out z4_) (fun _ _ _ h => h) (Or.inl ⟨by rfl, ?_⟩) hHeld ?_ ?_; rotate_left
                ·rintro w' ⟨s0, s1, s2⟩; go_simp; with_reducible rfl
                rotate_left
                ·simp only [Act.put, List.setIfInBounds_toArray, List.set_cons_zero, List.set_cons_succ, i64_w, i32_w]; rfl
                refine one_ (i := 3) (N := some 18) #[true, true, true, true, false, true, true, false, false, false, true, true, false, false, false, false, false] rfl rfl (one_of HT_.out z4_) (by decide) (fun K hK => ?_); refine goes_ Tryd.func61 z4_ rfl #[.int .i64 ((rd_T77 l0 x11_1).f0)] (by rfl) rfl rfl z1_ ?_; (with_reducible refine (impl_decimal.calls ((rd_T77 l0 x11_1).f0) t120 _ ?side1 A8.out).mono ?_); (case side1 => first | exact hT | exact Tt.TT_on hT z34_); rintro e w21 ⟨rfl, hb⟩; refine ⟨_, rfl, ?_⟩; have n0_ := Aside0.mk (blk_below (g := gb119) (o := .cells #[.int .i64 ((rd_T77 l0 x11_1).f0), .int .i64 ((rd_T77 l0 x11_1).f1), .int .i64 ((rd_T77 l0 x11_1).f2)] 77 (0, 0)) z66_ hb); have n1_ := Aside0.mk (below_step z34_ hb); clear BK119; clear HB; have BK119 := n0_; have HB := n1_; clear n0_ n1_; (try clear hb); (try clear hb2); (try clear hk); (try clear hi); refine hK.out _ _ ⟨(blk_cell BK119.out 0).trans rfl, (blk_cell BK119.out 1).trans rfl, (blk_cell BK119.out 2).trans rfl⟩ (fun hHeld => ?_); clear hK K; refine norm_ (a' := ?_) ?_ ?_; rotate_left
                ·show Act.put _ (some 18) _ = _; simp only [Act.put, List.setIfInBounds_toArray, List.set_cons_zero, List.set_cons_succ, i64_w, i32_w]; rfl
                refine pure_ (i := 4) (N := some 19) (v := ?_) (a' := ?_) #[true, true, true, true, true, true, true, false, false, false, true, true, false, false, false, false, false] rfl rfl (any_of HT_.out z4_) (fun _ _ _ h => h) (Or.inl ⟨by rfl, ?_⟩) ?_ ?_; rotate_left
                ·intro w'; go_simp; with_reducible rfl
                rotate_left
                ·simp only [Act.put, List.setIfInBounds_toArray, List.set_cons_zero, List.set_cons_succ, i64_w, i32_w]; rfl
                refine one_ (i := 7) (N := some 22) #[true, true, true, true, true, true, true, true, false, false, true, true, false, false, false, false, false] rfl rfl (one_of HT_.out z4_) (by decide) (fun K hK => ?_); refine goes_ Tryd.func61 z4_ rfl #[.int .i64 ((rd_T77 l0 x11_1).f1)] (by rfl) rfl rfl z1_ ?_; (with_reducible refine (impl_decimal.calls ((rd_T77 l0 x11_1).f1) t121 _ ?side1 A10.out).mono ?_); (case side1 => first | exact hT | exact Tt.TT_on hT z34_); rintro e w22 ⟨rfl, hb⟩; refine ⟨_, rfl, ?_⟩; have n0_ := Aside0.mk (blk_below (g := gb119) (o := .cells #[.int .i64 ((rd_T77 l0 x11_1).f0), .int .i64 ((rd_T77 l0 x11_1).f1), .int .i64 ((rd_T77 l0 x11_1).f2)] 77 (0, 0)) z66_ hb); have n1_ := Aside0.mk (below_step z34_ hb); clear BK119; clear HB; have BK119 := n0_; have HB := n1_; clear n0_ n1_; (try clear hb); (try clear hb2); (try clear hk); (try clear hi); refine hK.out _ _ ⟨(blk_cell BK119.out 0).trans rfl, (blk_cell BK119.out 1).trans rfl, (blk_cell BK119.out 2).trans rfl⟩ (fun hHeld => ?_); clear hK K; refine norm_ (a' := ?_) ?_ ?_; rotate_left
                ·show Act.put _ (some 22) _ = _; simp only [Act.put, List.setIfInBounds_toArray, List.set_cons_zero, List.set_cons_succ, i64_w, i32_w]; rfl
                refine pure_ (i := 8) (N := some 23) (v := ?_) (a' := ?_) #[true, true, true, true, true, true, true, true, true, false, true, true, false, false, false, false, false] rfl rfl (any_of HT_.out z4_) (fun _ _ _ h => h) (Or.inl ⟨by rfl, ?_⟩) ?_ ?_; rotate_left
                ·intro w'; go_simp; with_reducible rfl
                rotate_left
                ·simp only [Act.put, List.setIfInBounds_toArray, List.set_cons_zero, List.set_cons_succ, i64_w, i32_w]; rfl
                refine pure_ (i := 9) (N := some 24) (v := ?_) (a' := ?_) #[true, true, true, true, true, true, true, true, true, true, true, true, false, false, false, false, false] rfl rfl (any_of HT_.out z4_) (fun _ _ _ h => h) (Or.inl ⟨by rfl, ?_⟩) ?_ ?_; rotate_left
                ·intro w'; go_simp; with_reducible rfl
                rotate_left
                ·simp only [Act.put, List.setIfInBounds_toArray, List.set_cons_zero, List.set_cons_succ, i64_w, i32_w]; rfl
                refine one_ (i := 12) (N := some 27) #[true, true, true, true, true, true, true, true, true, true, true, true, true, false, false, false, false] rfl rfl (one_of HT_.out z4_) (by decide) (fun K hK => ?_); refine goes_ Tryd.func32 z4_ rfl #[.int .i64 ((rd_T77 l0 x11_1).f2)] (by rfl) rfl rfl z1_ ?_; (with_reducible refine (impl_AmountText.calls k1 ((rd_T77 l0 x11_1).f2) t122 _ ?side1 A13.out).mono ?_); (case side1 => first | exact hT | exact Tt.TT_on hT z34_); rintro e w23 ⟨rfl, hb⟩; refine ⟨_, rfl, ?_⟩; have n0_ := Aside0.mk (blk_below (g := gb119) (o := .cells #[.int .i64 ((rd_T77 l0 x11_1).f0), .int .i64 ((rd_T77 l0 x11_1).f1), .int .i64 ((rd_T77 l0 x11_1).f2)] 77 (0, 0)) z66_ hb); have n1_ := Aside0.mk (below_step z34_ hb); clear BK119; clear HB; have BK119 := n0_; have HB := n1_; clear n0_ n1_; (try clear hb); (try clear hb2); (try clear hk); (try clear hi); refine hK.out _ _ ⟨(blk_cell BK119.out 0).trans rfl, (blk_cell BK119.out 1).trans rfl, (blk_cell BK119.out 2).trans rfl⟩ (fun hHeld => ?_); clear hK K; refine norm_ (a' := ?_) ?_ ?_; rotate_left
                ·show Act.put _ (some 27) _ = _; simp only [Act.put, List.setIfInBounds_toArray, List.set_cons_zero, List.set_cons_succ, i64_w, i32_w]; rfl
                refine pure_ (i := 13) (N := some 28) (v := ?_) (a' := ?_) #[true, true, true, true, true, true, true, true, true, true, true, true, true, true, false, false, false] rfl rfl (any_of HT_.out z4_) (fun _ _ _ h => h) (Or.inl ⟨by rfl, ?_⟩) ?_ ?_; rotate_left
                ·intro w'; go_simp; with_reducible rfl
                rotate_left
                ·simp only [Act.put, List.setIfInBounds_toArray, List.set_cons_zero, List.set_cons_succ, i64_w, i32_w]; rfl
                refine pure_ (i := 14) (N := some 29) (v := ?_) (a' := ?_) #[true, true, true, true, true, true, true, true, true, true, true, true, true, true, true, false, false] rfl rfl (any_of HT_.out z4_) (fun _ _ _ h => h) (Or.inl ⟨by rfl, ?_⟩) ?_ ?_; rotate_left
                ·intro w'; go_simp; with_reducible rfl
                rotate_left
                ·simp only [Act.put, List.setIfInBounds_toArray, List.set_cons_zero, List.set_cons_succ, i64_w, i32_w]; rfl
                refine pure_ (i := 15) (N := some 30) (v := ?_) (a' := ?_) #[true, true, true, true, true, true, true, true, true, true, true, true, true, true, true, true, false] rfl rfl (any_of HT_.out z4_) (fun _ _ _ h => h) (Or.inl ⟨by rfl, ?_⟩) ?_ ?_; rotate_left
                ·intro w'; go_simp; with_reducible rfl
                rotate_left
                ·simp only [Act.put, List.setIfInBounds_toArray, List.set_cons_zero, List.set_cons_succ, i64_w, i32_w]; rfl
                refine pure_ (i := 16) (N := some 3) (v := ?_) (a' := ?_) #[true, true, true, true, true, true, true, true, true, true, true, true, true, true, true, true, true] rfl rfl (any_of HT_.out z4_) (fun _ _ _ h => h) (Or.inl ⟨by rfl, ?_⟩) ?_ ?_; rotate_left
                ·intro w'; go_simp; with_reducible rfl
                rotate_left
                ·simp only [Act.put, List.setIfInBounds_toArray, List.set_cons_zero, List.set_cons_succ, i64_w, i32_w]; rfl
                refine done_ (done_of HT_.out z4_) ?_; (try go_wp2); go_roundg k1
                case measure => have := HK1.out; omega
                case rel => exact ⟨(x3_1 ++ (((((t120 ++ (⟨#[32]⟩ : ByteArray)) ++ t121) ++ (⟨#[32]⟩ : ByteArray)) ++ t122) ++ (⟨#[10]⟩ : ByteArray))), (wrap64 (x11_1 + 1)), z5_, z5_, H', ⟨z62_⟩, ⟨z34_⟩⟩
               ·rw [if_neg c16] at H; exact absurd H (by simp)
              ·rw [if_neg c15] at H; exact absurd H (by simp)
             ·rw [if_neg c14] at H; exact absurd H (by simp)
            ·rw [if_neg c12] at H; exact absurd H (by simp)
           ·rw [if_neg c11] at H; exact absurd H (by simp)
          ·rw [if_neg c9] at H; exact absurd H (by simp)
         ·rw [if_neg c7] at H; exact absurd H (by simp)
        ·rw [if_neg c6] at H; exact absurd H (by simp)
       ·rw [if_neg c5] at H; have c5b0 : decide (x11_1 < (l0.length : Int)) = false := decide_eq_false c5; clear c5; obtain rfl := Option.some.inj H; go_wp2; go_ret; exact ⟨z3_, z0_⟩
  ·replace c3 := Bool.eq_false_iff.mpr c3; subst c3; (have H1 : (some (⟨#[]⟩ : ByteArray)) = some r := z17_); clear H; have H := H1; clear H1; obtain rfl := Option.some.inj H; go_enter Tryd.func15, Tryd.ntmps15; go_wp2_with (first | ((with_reducible refine gate_callee (f := 50) rfl ?_); refine goesL_ (some 7) rfl rfl Tryd.func50 z4_ rfl #[.int .i64 16, .slice A0 l0.length c0] rfl z1_ ?_; (with_reducible refine (impl_ValidDebts.calls k 16 _ _ l0 false _ ?side1 ?side2 A2.out).mono ?_); (case side1 => repeat (first | exact HR0.out | (with_reducible refine Kd.C_alloc ?_ _) | (with_reducible refine Kd.C_drewN ?_ _) | (with_reducible refine Kd.C_drew ?_))); (case side2 => exact HC0.out); rintro e w24 ⟨rfl, hb⟩; refine ⟨_, rfl, ?_⟩; have n0_ := Aside0.mk (below_step z0_ hb); clear HB; have HB := n0_; clear n0_; (try clear hb); (try clear hb2); (try clear hk); (try clear hi))); go_ret; exact ⟨z3_, z0_⟩

/-! ### strings_Split: function 54 -/
def strings_Split.f (a0 : ByteArray) (a1 : ByteArray) : Option (List ByteArray) := if a0.size < 4294967281 ∧ 1 ≤ a1.size then some (Lib.splitB a1 0 (Lib.countB a0 a1) a0) else none
set_option maxHeartbeats 8000000 in
set_option maxRecDepth 100000 in
theorem strings_Split.calls (a0 : ByteArray) (a1 : ByteArray) (r : List ByteArray) (w : World) (hT : Tt.TT w) (h : strings_Split.f a0 a1 = some r) :
    Calls Tryd.prog 54 #[.string a0, .string a1] w fun e w' => ∃ v0_ : Value, e = .returned (v0_) ∧ Kd.R Kd.string 9 w' w.heap.size (fun _ => True) v0_ r ∧ Below w.heap.size w w' := by
  unfold strings_Split.f at h; split at h
  ·rename_i hc; injection h with h; subst h; exact Tt.split_call 54 rfl a0 a1 w hT hc.1 hc.2
  ·cases h

/-! ### impl_number: function 55 -/
mutual
def impl_number.j0 : Nat → ByteArray → Bool → Option (Int × Bool)
  | 0, _, _ => none
  | k + 1, x0, x22 => if x22 = true then (some (0, false)) else (impl_number.l0 k x0 0 (x0.size : Int) 0)
def impl_number.l0 : Nat → ByteArray → Int → Int → Int → Option (Int × Bool)
  | 0, _, _, _, _ => none
  | k + 1, x0, x4, x24, x25 => if x25 < x24 then (if 0 ≤ x25 then (if x25 < (x0.size : Int) then (if (bt x0 x25) < 48 then (some (0, false)) else (if (bt x0 x25) > 57 then (some (0, false)) else (impl_number.l0 k x0 (wrap64 ((wrap64 (x4 * 10)) + (((bt x0 x25) - 48) % 256))) x24 (wrap64 (x25 + 1))))) else (none)) else (none)) else (some (x4, true))
end
def impl_number.f (k : Nat) (a0 : ByteArray) : Option (Int × Bool) := if a0.toList = ([] : List UInt8) then (impl_number.j0 k a0 true) else (if (a0.size : Int) > 9 then (impl_number.j0 k a0 true) else (if 0 < (a0.size : Int) then (if (bt a0 0) = 48 then (impl_number.j0 k a0 (decide ((a0.size : Int) > 1))) else (impl_number.j0 k a0 false)) else (none)))
theorem impl_number.mono_l : ∀ k, (∀ y0 y1, LeO (impl_number.j0 k y0 y1) (impl_number.j0 (k + 1) y0 y1)) ∧ (∀ y0 y1 y2 y3, LeO (impl_number.l0 k y0 y1 y2 y3) (impl_number.l0 (k + 1) y0 y1 y2 y3))
  | 0 => ⟨fun _ _ r h => by simp [impl_number.j0] at h, fun _ _ _ _ r h => by simp [impl_number.l0] at h⟩
  | k + 1 => by
    obtain ⟨ih0, ih1⟩ := impl_number.mono_l k
    refine ⟨?_, ?_⟩
    · intro y0 y1
      unfold impl_number.j0
      repeat' first
      | (with_reducible exact ih0 _ _)
      | (with_reducible exact ih1 _ _ _ _)
      | (with_reducible exact LeO.refl _)
      | (with_reducible exact LeO.none _)
      | (with_reducible refine LeO.ite ?_ ?_)
      | (with_reducible refine LeO.bind ?_ (fun _ => ?_))
      | exact ih0 _ _
      | exact ih1 _ _ _ _
      | exact LeO.none _
      | refine LeO.ite ?_ ?_
      | refine LeO.bind ?_ (fun _ => ?_)
    · intro y0 y1 y2 y3
      unfold impl_number.l0
      repeat' first
      | (with_reducible exact ih0 _ _)
      | (with_reducible exact ih1 _ _ _ _)
      | (with_reducible exact LeO.refl _)
      | (with_reducible exact LeO.none _)
      | (with_reducible refine LeO.ite ?_ ?_)
      | (with_reducible refine LeO.bind ?_ (fun _ => ?_))
      | exact ih0 _ _
      | exact ih1 _ _ _ _
      | exact LeO.none _
      | refine LeO.ite ?_ ?_
      | refine LeO.bind ?_ (fun _ => ?_)
theorem impl_number.mono : ∀ a0 k, LeO (impl_number.f k a0) (impl_number.f (k + 1) a0) := by
  intro a0 k; obtain ⟨ih0, ih1⟩ := impl_number.mono_l k; unfold impl_number.f
  repeat' first
      | (with_reducible exact ih0 _ _)
      | (with_reducible exact ih1 _ _ _ _)
      | (with_reducible exact LeO.refl _)
      | (with_reducible exact LeO.none _)
      | (with_reducible refine LeO.ite ?_ ?_)
      | (with_reducible refine LeO.bind ?_ (fun _ => ?_))
      | exact ih0 _ _
      | exact ih1 _ _ _ _
      | exact LeO.none _
      | refine LeO.ite ?_ ?_
      | refine LeO.bind ?_ (fun _ => ?_)
set_option maxHeartbeats 8000000 in
set_option maxRecDepth 100000 in
theorem impl_number.calls (k : Nat) (a0 : ByteArray) (r1 : Int) (r2 : Bool) (w : World) (h : impl_number.f k a0 = some (r1, r2)) :
    Calls Tryd.prog 55 #[.string a0] w fun e w' => e = .returned (.tuple #[.int .i64 r1, .bool r2]) ∧ Drawn0 w w' := by
  have H : (if a0.toList = ([] : List UInt8) then (impl_number.j0 k a0 true) else (if (a0.size : Int) > 9 then (impl_number.j0 k a0 true) else (if 0 < (a0.size : Int) then (if (bt a0 0) = 48 then (impl_number.j0 k a0 (decide ((a0.size : Int) > 1))) else (impl_number.j0 k a0 false)) else (none)))) = some (r1, r2) := h; clear h; have HC2 := Aside0.mk H; clear H; go_enter Tryd.func55, Tryd.ntmps55; go_upto_region 1 with (fail); go_cut [22] (fun v22 wc => ∃ (kq : Nat) (x22_1 : Bool), v22 = .bool x22_1 ∧ Aside0 (impl_number.j0 kq a0 x22_1 = some (r1, r2)) ∧ Aside0 (kq ≤ k) ∧ Drawn0 w wc)
  case first =>
    have H := HC2.out; clear HC2; by_cases c3 : a0.toList = ([] : List UInt8)
    ·rw [if_pos c3] at H; have c3b0 : (a0.toList == ([] : List UInt8)) = true := beq_iff_eq.mpr c3; have c3b1 : (a0.toList != ([] : List UInt8)) = false := bne_eq_false_iff_eq.mpr c3; clear c3; (first | rw [c3b0] | (simp only [i64_w, i32_w]; rw [c3b0]) | skip); have H' := Aside0.mk H; clear H; go_wp2; go_meet
     case rel => exact ⟨_, (true), z5_, H', ⟨z42_⟩, z10_⟩
    ·rw [if_neg c3] at H; have c3b0 : (a0.toList == ([] : List UInt8)) = false := beq_eq_false_iff_ne.mpr c3; have c3b1 : (a0.toList != ([] : List UInt8)) = true := bne_iff_ne.mpr c3; (first | rw [c3b0] | (simp only [i64_w, i32_w]; rw [c3b0]) | skip); by_cases c4 : (a0.size : Int) > 9
     ·rw [if_pos c4] at H; have c4b0 : decide (9 < (a0.size : Int)) = true := decide_eq_true c4; have c4b1 : decide (9 < a0.size) = true := decide_eq_true (by omega); clear c4; have H' := Aside0.mk H; clear H; go_wp2; go_meet
      case rel => exact ⟨_, (true), z5_, H', ⟨z42_⟩, z10_⟩
     ·rw [if_neg c4] at H; have c4b0 : decide (9 < (a0.size : Int)) = false := decide_eq_false c4; have c4b1 : decide (9 < a0.size) = false := decide_eq_false (by omega); clear c4; by_cases c5 : 0 < (a0.size : Int)
      ·rw [if_pos c5] at H; have c5b0 : decide (0 < (a0.size : Int)) = true := decide_eq_true c5; have c5b1 : decide (0 < a0.size) = true := decide_eq_true (by omega); clear c5; by_cases c7 : (bt a0 0) = 48
       ·rw [if_pos c7] at H; have c7b0 : ((bt a0 0) == 48) = true := beq_iff_eq.mpr c7; have c7b1 : ((bt a0 0) != 48) = false := bne_eq_false_iff_eq.mpr c7; clear c7; have H' := Aside0.mk H; clear H; have p6 : 0 ≤ (0 : Int) := (by omega); have q6 : 0 < a0.size := (by have : (0 : Int) < (a0.size : Int) := of_decide_eq_true z2_; omega); have hx6 : ∀ h : 0 < a0.size, ((a0[0]'h).toNat : Int) = bt a0 0 := bt_at a0 0; clear p6; have qi6 : (0 < (a0.size : Int)) = True := eq_true (of_decide_eq_true z2_); replace q6 := eq_true q6; go_wp2; go_meet
        case rel => exact ⟨_, (decide ((a0.size : Int) > 1)), z5_, H', ⟨z42_⟩, z10_⟩
       ·rw [if_neg c7] at H; have c7b0 : ((bt a0 0) == 48) = false := beq_eq_false_iff_ne.mpr c7; have c7b1 : ((bt a0 0) != 48) = true := bne_iff_ne.mpr c7; have H' := Aside0.mk H; clear H; have p6 : 0 ≤ (0 : Int) := (by omega); have q6 : 0 < a0.size := (by have : (0 : Int) < (a0.size : Int) := of_decide_eq_true z2_; omega); have hx6 : ∀ h : 0 < a0.size, ((a0[0]'h).toNat : Int) = bt a0 0 := bt_at a0 0; clear p6; have qi6 : (0 < (a0.size : Int)) = True := eq_true (of_decide_eq_true z2_); replace q6 := eq_true q6; go_wp2; go_meet
        case rel => exact ⟨_, (false), z5_, H', ⟨z42_⟩, z10_⟩
      ·rw [if_neg c5] at H; exact absurd H (by simp)
  case rest =>
    clear HC2; (try clear p2); (try clear c3); (try clear c3b0); (try clear c3b1); (try clear c4); (try clear c4b0); (try clear c4b1); (try clear c5); (try clear c5b0); (try clear c5b1); (try clear p6); (try clear q6); (try clear hx6); (try clear qi6); (try clear c7); (try clear c7b0); (try clear c7b1); (try clear p6); (try clear q6); obtain ⟨kq, x22_1, rfl, HA, HJ1, ⟨mc1, rfl⟩⟩ := hcut
    cases kq with
    | zero => exact absurd HA.out (by simp [impl_number.j0])
    | succ kj1 =>
      have H := HA.out; clear HA; simp only [impl_number.j0] at H; by_cases c8 : x22_1 = true
      ·subst c8; (have H1 : (some (0, false)) = some (r1, r2) := z39_); clear H; have H := H1; clear H1; simp only [Option.some.injEq, Prod.mk.injEq] at H; obtain ⟨rfl, rfl⟩ := H; go_wp2; go_ret2; exact ⟨z5_, z10_⟩
      ·replace c8 := Bool.eq_false_iff.mpr c8; subst c8; (have H1 : (impl_number.l0 kj1 a0 0 (a0.size : Int) 0) = some (r1, r2) := z17_); clear H; have H := H1; clear H1; have H' := Aside0.mk H; clear H; go_wp2; go_loopg [4, 25] kj1 (fun kq v4 v25 w' => ∃ (x4_2 : Int) (x25_2 : Int), v4 = .int .i64 x4_2 ∧ v25 = .int .i64 x25_2 ∧ Aside0 (impl_number.l0 kq a0 x4_2 (a0.size : Int) x25_2 = some (r1, r2)) ∧ Aside0 (kq ≤ kj1) ∧ Drawn0 w w')
       case atStart => exact ⟨(0), (0), z5_, z5_, H', ⟨Nat.le_refl _⟩, z10_⟩
       case round =>
         clear H'; (try clear c1); (try clear p2); (try clear c3); (try clear c3b0); (try clear c3b1); (try clear c4); (try clear c4b0); (try clear c4b1); (try clear c5); (try clear c5b0); (try clear c5b1); (try clear p6); (try clear q6); (try clear hx6); (try clear qi6); (try clear c7); (try clear c7b0); (try clear c7b1); (try clear c8); (try clear p2); (try clear p6); (try clear q6); obtain ⟨x4_2, x25_2, rfl, rfl, HA, HK2, ⟨m2, rfl⟩⟩ := hrel
         cases gk with
         | zero => exact absurd HA.out (by simp [impl_number.l0])
         | succ k2 =>
           have H := HA.out; clear HA; simp only [impl_number.l0] at H; by_cases c9 : x25_2 < (a0.size : Int)
           ·rw [if_pos c9] at H; have c9b0 : decide (x25_2 < (a0.size : Int)) = true := decide_eq_true c9; clear c9; by_cases c10 : 0 ≤ x25_2
            ·rw [if_pos c10] at H; have c10b0 : decide (0 ≤ x25_2) = true := decide_eq_true c10; clear c10; by_cases c11 : x25_2 < (a0.size : Int)
             ·rw [if_pos c11] at H; have c11b0 : decide (x25_2 < (a0.size : Int)) = true := decide_eq_true c11; clear c11; by_cases c13 : (bt a0 x25_2) < 48
              ·rw [if_pos c13] at H; have c13b0 : decide ((bt a0 x25_2) < 48) = true := decide_eq_true c13; clear c13; simp only [Option.some.injEq, Prod.mk.injEq] at H; obtain ⟨rfl, rfl⟩ := H; have p12 : 0 ≤ (x25_2 : Int) := of_decide_eq_true z2_; have q12 : x25_2 < (a0.size : Int) := of_decide_eq_true z2_; have hx12 := bt_at a0 x25_2; replace p12 := eq_true p12; replace q12 := eq_true q12; go_wp2; go_ret2; exact ⟨z5_, z10_⟩
              ·rw [if_neg c13] at H; have c13b0 : decide ((bt a0 x25_2) < 48) = false := decide_eq_false c13; clear c13; by_cases c15 : (bt a0 x25_2) > 57
               ·rw [if_pos c15] at H; have c15b0 : decide (57 < (bt a0 x25_2)) = true := decide_eq_true c15; clear c15; simp only [Option.some.injEq, Prod.mk.injEq] at H; obtain ⟨rfl, rfl⟩ := H; have p12 : 0 ≤ (x25_2 : Int) := of_decide_eq_true z2_; have q12 : x25_2 < (a0.size : Int) := of_decide_eq_true z2_; have hx12 := bt_at a0 x25_2; replace p12 := eq_true p12; replace q12 := eq_true q12; have p14 : 0 ≤ (x25_2 : Int) := of_decide_eq_true z2_; have q14 : x25_2 < (a0.size : Int) := of_decide_eq_true z2_; have hx14 := bt_at a0 x25_2; replace p14 := eq_true p14; replace q14 := eq_true q14; go_wp2; go_ret2; exact ⟨z5_, z10_⟩
               ·rw [if_neg c15] at H; have c15b0 : decide (57 < (bt a0 x25_2)) = false := decide_eq_false c15; clear c15; have H' := Aside0.mk H; clear H; have p12 : 0 ≤ (x25_2 : Int) := of_decide_eq_true z2_; have q12 : x25_2 < (a0.size : Int) := of_decide_eq_true z2_; have hx12 := bt_at a0 x25_2; replace p12 := eq_true p12; replace q12 := eq_true q12; have p14 : 0 ≤ (x25_2 : Int) := of_decide_eq_true z2_; have q14 : x25_2 < (a0.size : Int) := of_decide_eq_true z2_; have hx14 := bt_at a0 x25_2; replace p14 := eq_true p14; replace q14 := eq_true q14; have p16 : 0 ≤ (x25_2 : Int) := of_decide_eq_true z2_; have q16 : x25_2 < (a0.size : Int) := of_decide_eq_true z2_; have hx16 := bt_at a0 x25_2; replace p16 := eq_true p16; replace q16 := eq_true q16; go_wp2; go_roundg k2
                case measure => have := HJ1.out; have := HK2.out; omega
                case rel => exact ⟨(wrap64 ((wrap64 (x4_2 * 10)) + (((bt a0 x25_2) - 48) % 256))), (wrap64 (x25_2 + 1)), z5_, z5_, H', ⟨by have := HJ1.out; have := HK2.out; omega⟩, z10_⟩
             ·rw [if_neg c11] at H; exact absurd H (by simp)
            ·rw [if_neg c10] at H; exact absurd H (by simp)
           ·rw [if_neg c9] at H; have c9b0 : decide (x25_2 < (a0.size : Int)) = false := decide_eq_false c9; clear c9; simp only [Option.some.injEq, Prod.mk.injEq] at H; obtain ⟨rfl, rfl⟩ := H; go_wp2; go_ret2; exact ⟨z5_, z10_⟩

/-! ### strings_IndexByte: function 56 -/
def strings_IndexByte.f (a0 : ByteArray) (a1 : Int) : Option (Int) := if True then some (Lib.indexByte a0.data.toList a1.toNat.toUInt8) else none
set_option maxHeartbeats 8000000 in
set_option maxRecDepth 100000 in
theorem strings_IndexByte.calls (a0 : ByteArray) (a1 : Int) (r : Int) (w : World) (h : strings_IndexByte.f a0 a1 = some r) :
    Calls Tryd.prog 56 #[.string a0, .int .u8 a1] w fun e w' => e = .returned (.int .i64 r) ∧ Below w.heap.size w w' := by
  unfold strings_IndexByte.f at h; split at h
  ·rename_i hc; injection h with h; subst h; exact Tt.index_call 56 rfl a0 a1 w
  ·cases h

/-! ### impl_worth: function 57 -/
def impl_worth.f (a0 : Int) : Option (Int) := (some (([1, 12, 240, 4800, 24000, 240000] : List Int) : List Int)).bind fun y123 => (if 0 ≤ a0 then (if a0 < (y123.length : Int) then (some (rd y123 a0)) else (none)) else (none))
set_option maxHeartbeats 8000000 in
set_option maxRecDepth 100000 in
theorem impl_worth.calls (a0 : Int) (r : Int) (w : World) (h : impl_worth.f a0 = some r) :
    Calls Tryd.prog 57 #[.int .i64 a0] w fun e w' => e = .returned (.int .i64 r) ∧ Below w.heap.size w w' := by
  have HB := Aside0.mk (Below.refl w.heap.size w); have H : ((some (([1, 12, 240, 4800, 24000, 240000] : List Int) : List Int)).bind fun y123 => (if 0 ≤ a0 then (if a0 < (y123.length : Int) then (some (rd y123 a0)) else (none)) else (none))) = some r := h; clear h; obtain ⟨y123, hy123⟩ : ∃ y_ : List Int, y_ = (([1, 12, 240, 4800, 24000, 240000] : List Int)) := ⟨_, rfl⟩; (replace H : (if 0 ≤ a0 then (if a0 < (y123.length : Int) then (some (rd y123 a0)) else (none)) else (none)) = some r := by first | (rw [hy123]; with_reducible exact H) | (have H2_ := (Option.bind_some _ _).symm.trans H; rw [hy123]; with_reducible exact H2_) | (have H2_ := (Option.bind_some _ _).symm.trans H; with_reducible exact H2_) | with_reducible exact H | (rw [hy123]; exact H) | exact H); have Ny123 := Aside0.mk hy123; clear hy123; by_cases c2 : 0 ≤ a0
  ·rw [if_pos c2] at H; have c2b0 : decide (0 ≤ a0) = true := decide_eq_true c2; clear c2; by_cases c3 : a0 < (y123.length : Int)
   ·rw [if_pos c3] at H; have c3b0 : decide (a0 < (y123.length : Int)) = true := decide_eq_true c3; clear c3; obtain rfl := Option.some.inj H; go_enter Tryd.func57, Tryd.ntmps57; go_wp2_with (first | ((with_reducible refine gate_dst (N := 3) rfl ?_); refine Kd.R_lit (Kd.int .i64) _ 2 ?hg (N := 3) ?hd (xs := ([1, 12, 240, 4800, 24000, 240000] : List Int)) (inner := [.int .i64 1, .int .i64 12, .int .i64 240, .int .i64 4800, .int .i64 24000, .int .i64 240000]) (ok := fun _ => True) (okp := fun _ => True) ?hr ?hp (fun _ hk => hk) trivial (Below.refl _ _) (Nat.le_refl _) (by simp) ?_; (case hd => rfl); (case hg => rfl); (case hr => first | (go_simp; done) | (go_simp; rfl)); (case hp => exact (Reps.one (show Kd.M (Kd.int .i64) _ _ _ 1 [.int .i64 1] from rfl) (Reps.one (show Kd.M (Kd.int .i64) _ _ _ 12 [.int .i64 12] from rfl) (Reps.one (show Kd.M (Kd.int .i64) _ _ _ 240 [.int .i64 240] from rfl) (Reps.one (show Kd.M (Kd.int .i64) _ _ _ 4800 [.int .i64 4800] from rfl) (Reps.one (show Kd.M (Kd.int .i64) _ _ _ 24000 [.int .i64 24000] from rfl) (Reps.one (show Kd.M (Kd.int .i64) _ _ _ 240000 [.int .i64 240000] from rfl) (Reps.none _ _)))))))); intro v124 w4 ho5 hb hg_ hnew_; clear hg_ hnew_; (first | rw [← Ny123.out] at ho5 | (simp only [Int.reduceToNat] at ho5; rw [← Ny123.out] at ho5)); have n0_ := Aside0.mk (Kd.R_lower ho5 (below_size z0_)); have n1_ := Aside0.mk (below_step z0_ hb); clear HB; have HO125 := n0_; have HB := n1_; clear n0_ n1_; clear hb ho5; obtain ⟨Ao6, co6, eo6⟩ := Kd.R_slice HO125.out; subst eo6; have p126 : 0 ≤ (a0 : Int) := of_decide_eq_true z2_; have q126 : a0 < (y123.length : Int) := of_decide_eq_true z2_; obtain ⟨ad126, e126, hx126_0⟩ := Kd.at_int (Kd.R_reads' HO125.out).2.2 a0 p126 q126; cases e126; replace p126 := eq_true p126; replace q126 := eq_true q126)); go_ret; exact ⟨z3_, z0_⟩
   ·rw [if_neg c3] at H; exact absurd H (by simp)
  ·rw [if_neg c2] at H; exact absurd H (by simp)

end Go.Proofs.YtfjmljgbdejghaaDoor.MNets
