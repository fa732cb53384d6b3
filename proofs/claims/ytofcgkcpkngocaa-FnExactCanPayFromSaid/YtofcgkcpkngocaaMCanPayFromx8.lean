-- by a program of this session, for this claim
import Derived.Test.YtofcgkcpkngocaaMCanPayFromx0
import Derived.Test.YtofcgkcpkngocaaMCanPayFromx7
namespace Go.Proofs.Ytofcgkcpkngocaa.MCanPayFrom
open Go.RowKit Go.Proofs.YtofcgkcpkngocaaW.PrintWords Go.Proofs.YtofcgkcpkngocaaW.PrintLast Go.Proofs.YtofcgkcpkngocaaW.PrintMore
attribute [local go_sem] max2_int min2_int max_two min_two max_three min_three max_four min_four   -- for this text's walks alone
set_option linter.unusedVariables false
set_option linter.unusedSimpArgs false

/-! ### impl_CanPayFrom: function 43 -/
mutual
def impl_CanPayFrom.l0 : Nat → Int → List (S65) → List Int → List Int → Int → Int → Option (List Int × Int)
  | 0, _, _, _, _, _, _ => none
  | k + 1, x0, x1, x2, x28, x29, x30 => if x30 < x29 then (if 0 ≤ x30 then (if x30 < (x28.length : Int) then ((impl_isAmount.f (rd x28 x30)).bind fun t201 => (if t201 = true then (impl_CanPayFrom.l0 k x0 x1 x2 x28 x29 (wrap64 (x30 + 1))) else (some (([] : List Int), 2)))) else (none)) else (none)) else ((impl_sumsOf.f k x1).bind fun t202 => ((slices_Clone_int64_int64.f x2).bind fun t203 => (if 0 ≤ x0 then (if (x0 : Int).toNat ≤ 281474976710656 then (impl_CanPayFrom.l1 k x0 t203 (List.replicate (x0 : Int).toNat false) (([] : List Int)) true t202) else (none)) else (none))))
def impl_CanPayFrom.l1 : Nat → Int → List Int → List Bool → List Int → Bool → Vector Int 256 → Option (List Int × Int)
  | 0, _, _, _, _, _, _ => none
  | k + 1, x0, x11, x12, x13, x14, x207000 => if x14 = true then (impl_CanPayFrom.l2 k x0 x11 x12 x13 false x0 0 x207000) else (some (x13, 0))
def impl_CanPayFrom.l2 : Nat → Int → List Int → List Bool → List Int → Bool → Int → Int → Vector Int 256 → Option (List Int × Int)
  | 0, _, _, _, _, _, _, _, _ => none
  | k + 1, x0, x11, x12, x13, x14, x46, x47, x207000 => if x47 < x46 then (if 0 ≤ x47 then (if x47 < 16 then (impl_CanPayFrom.l3 k x0 x11 x12 x13 x14 x47 0 x46 x47 0 (Arr.vrow 16 x207000 x47) x207000) else (none)) else (none)) else (impl_CanPayFrom.l1 k x0 x11 x12 x13 x14 x207000)
def impl_CanPayFrom.l3 : Nat → Int → List Int → List Bool → List Int → Bool → Int → Int → Int → Int → Int → Vector Int 16 → Vector Int 256 → Option (List Int × Int)
  | 0, _, _, _, _, _, _, _, _, _, _, _, _ => none
  | k + 1, x0, x11, x12, x13, x14, x15, x16, x46, x47, x53, x501, x207000 => if x53 < 16 then (if 0 ≤ x53 then (impl_CanPayFrom.l3 k x0 x11 x12 x13 x14 x15 (wrap64 (x16 + (Arr.vrd x501 x53))) x46 x47 (wrap64 (x53 + 1)) x501 x207000) else (none)) else (if 0 ≤ x15 then (if x15 < (x12.length : Int) then (if rdOf false x12 x15 = true then (impl_CanPayFrom.j4 k x0 x11 x12 x13 x14 x15 x16 x46 x47 true x207000) else (if x15 < (x11.length : Int) then (impl_CanPayFrom.j4 k x0 x11 x12 x13 x14 x15 x16 x46 x47 (decide ((rd x11 x15) < x16)) x207000) else (none))) else (none)) else (none))
def impl_CanPayFrom.j4 : Nat → Int → List Int → List Bool → List Int → Bool → Int → Int → Int → Int → Bool → Vector Int 256 → Option (List Int × Int)
  | 0, _, _, _, _, _, _, _, _, _, _, _ => none
  | k + 1, x0, x11, x12, x13, x14, x15, x16, x46, x47, x71, x207000 => if x71 = true then (impl_CanPayFrom.l2 k x0 x11 x12 x13 x14 x46 (wrap64 (x47 + 1)) x207000) else (if 0 ≤ x15 then (if x15 < (x12.length : Int) then (if x13.length < 17592186044416 then (if x15 < (x11.length : Int) then (impl_CanPayFrom.l4 k x0 (x11.set (x15 : Int).toNat (wrap64 ((rd x11 x15) - x16))) (x12.set (x15 : Int).toNat true) (x13 ++ [x15]) true x15 x46 x47 x0 0 x207000) else (none)) else (none)) else (none)) else (none))
def impl_CanPayFrom.l4 : Nat → Int → List Int → List Bool → List Int → Bool → Int → Int → Int → Int → Int → Vector Int 256 → Option (List Int × Int)
  | 0, _, _, _, _, _, _, _, _, _, _, _ => none
  | k + 1, x0, x11, x12, x13, x14, x15, x46, x47, x86, x87, x207000 => if x87 < x86 then (if 0 ≤ x87 then (if x87 < (x11.length : Int) then (if 0 ≤ x15 then (if x15 < 16 then (if x87 < 16 then (if (wrap64 ((rd x11 x87) + (Arr.vrd2 16 x207000 x15 x87))) > 100000000 then (some (([] : List Int), 3)) else (impl_CanPayFrom.l4 k x0 (x11.set (x87 : Int).toNat (wrap64 ((rd x11 x87) + (Arr.vrd2 16 x207000 x15 x87)))) x12 x13 x14 x15 x46 x47 x86 (wrap64 (x87 + 1)) x207000)) else (none)) else (none)) else (none)) else (none)) else (none)) else (impl_CanPayFrom.l2 k x0 x11 x12 x13 x14 x46 (wrap64 (x47 + 1)) x207000)
end
def impl_CanPayFrom.f (k : Nat) (a0 : Int) (l1 : List (S65)) (l2 : List Int) : Option (List Int × Int) := (impl_ValidDebts.f k a0 l1).bind fun t199 => (if t199 = true then (if (l2.length : Int) = a0 then (impl_CanPayFrom.l0 k a0 l1 l2 l2 (l2.length : Int) 0) else (some (([] : List Int), 2))) else (some (([] : List Int), 1)))
theorem impl_CanPayFrom.mono_l : ∀ k, (∀ y0 y1 y2 y3 y4 y5, LeO (impl_CanPayFrom.l0 k y0 y1 y2 y3 y4 y5) (impl_CanPayFrom.l0 (k + 1) y0 y1 y2 y3 y4 y5)) ∧ (∀ y0 y1 y2 y3 y4 y5, LeO (impl_CanPayFrom.l1 k y0 y1 y2 y3 y4 y5) (impl_CanPayFrom.l1 (k + 1) y0 y1 y2 y3 y4 y5)) ∧ (∀ y0 y1 y2 y3 y4 y5 y6 y7, LeO (impl_CanPayFrom.l2 k y0 y1 y2 y3 y4 y5 y6 y7) (impl_CanPayFrom.l2 (k + 1) y0 y1 y2 y3 y4 y5 y6 y7)) ∧ (∀ y0 y1 y2 y3 y4 y5 y6 y7 y8 y9 y10 y11, LeO (impl_CanPayFrom.l3 k y0 y1 y2 y3 y4 y5 y6 y7 y8 y9 y10 y11) (impl_CanPayFrom.l3 (k + 1) y0 y1 y2 y3 y4 y5 y6 y7 y8 y9 y10 y11)) ∧ (∀ y0 y1 y2 y3 y4 y5 y6 y7 y8 y9 y10, LeO (impl_CanPayFrom.j4 k y0 y1 y2 y3 y4 y5 y6 y7 y8 y9 y10) (impl_CanPayFrom.j4 (k + 1) y0 y1 y2 y3 y4 y5 y6 y7 y8 y9 y10)) ∧ (∀ y0 y1 y2 y3 y4 y5 y6 y7 y8 y9 y10, LeO (impl_CanPayFrom.l4 k y0 y1 y2 y3 y4 y5 y6 y7 y8 y9 y10) (impl_CanPayFrom.l4 (k + 1) y0 y1 y2 y3 y4 y5 y6 y7 y8 y9 y10))
  | 0 => ⟨fun _ _ _ _ _ _ r h => by simp [impl_CanPayFrom.l0] at h, fun _ _ _ _ _ _ r h => by simp [impl_CanPayFrom.l1] at h, fun _ _ _ _ _ _ _ _ r h => by simp [impl_CanPayFrom.l2] at h, fun _ _ _ _ _ _ _ _ _ _ _ _ r h => by simp [impl_CanPayFrom.l3] at h, fun _ _ _ _ _ _ _ _ _ _ _ r h => by simp [impl_CanPayFrom.j4] at h, fun _ _ _ _ _ _ _ _ _ _ _ r h => by simp [impl_CanPayFrom.l4] at h⟩
  | k + 1 => by
    obtain ⟨ih0, ih1, ih2, ih3, ih4, ih5⟩ := impl_CanPayFrom.mono_l k
    refine ⟨?_, ?_, ?_, ?_, ?_, ?_⟩
    · intro y0 y1 y2 y3 y4 y5
      unfold impl_CanPayFrom.l0
      repeat' first
      | (with_reducible exact ih0 _ _ _ _ _ _)
      | (with_reducible exact ih1 _ _ _ _ _ _)
      | (with_reducible exact ih2 _ _ _ _ _ _ _ _)
      | (with_reducible exact ih3 _ _ _ _ _ _ _ _ _ _ _ _)
      | (with_reducible exact ih4 _ _ _ _ _ _ _ _ _ _ _)
      | (with_reducible exact ih5 _ _ _ _ _ _ _ _ _ _ _)
      | (with_reducible exact impl_ValidDebts.mono _ _ _)
      | (with_reducible exact impl_sumsOf.mono _ _)
      | (with_reducible exact LeO.refl _)
      | (with_reducible exact LeO.none _)
      | (with_reducible refine LeO.ite ?_ ?_)
      | (with_reducible refine LeO.bind ?_ (fun _ => ?_))
      | exact ih0 _ _ _ _ _ _
      | exact ih1 _ _ _ _ _ _
      | exact ih2 _ _ _ _ _ _ _ _
      | exact ih3 _ _ _ _ _ _ _ _ _ _ _ _
      | exact ih4 _ _ _ _ _ _ _ _ _ _ _
      | exact ih5 _ _ _ _ _ _ _ _ _ _ _
      | exact impl_ValidDebts.mono _ _ _
      | exact impl_sumsOf.mono _ _
      | exact LeO.none _
      | refine LeO.ite ?_ ?_
      | refine LeO.bind ?_ (fun _ => ?_)
    · intro y0 y1 y2 y3 y4 y5
      unfold impl_CanPayFrom.l1
      repeat' first
      | (with_reducible exact ih0 _ _ _ _ _ _)
      | (with_reducible exact ih1 _ _ _ _ _ _)
      | (with_reducible exact ih2 _ _ _ _ _ _ _ _)
      | (with_reducible exact ih3 _ _ _ _ _ _ _ _ _ _ _ _)
      | (with_reducible exact ih4 _ _ _ _ _ _ _ _ _ _ _)
      | (with_reducible exact ih5 _ _ _ _ _ _ _ _ _ _ _)
      | (with_reducible exact impl_ValidDebts.mono _ _ _)
      | (with_reducible exact impl_sumsOf.mono _ _)
      | (with_reducible exact LeO.refl _)
      | (with_reducible exact LeO.none _)
      | (with_reducible refine LeO.ite ?_ ?_)
      | (with_reducible refine LeO.bind ?_ (fun _ => ?_))
      | exact ih0 _ _ _ _ _ _
      | exact ih1 _ _ _ _ _ _
      | exact ih2 _ _ _ _ _ _ _ _
      | exact ih3 _ _ _ _ _ _ _ _ _ _ _ _
      | exact ih4 _ _ _ _ _ _ _ _ _ _ _
      | exact ih5 _ _ _ _ _ _ _ _ _ _ _
      | exact impl_ValidDebts.mono _ _ _
      | exact impl_sumsOf.mono _ _
      | exact LeO.none _
      | refine LeO.ite ?_ ?_
      | refine LeO.bind ?_ (fun _ => ?_)
    · intro y0 y1 y2 y3 y4 y5 y6 y7
      unfold impl_CanPayFrom.l2
      repeat' first
      | (with_reducible exact ih0 _ _ _ _ _ _)
      | (with_reducible exact ih1 _ _ _ _ _ _)
      | (with_reducible exact ih2 _ _ _ _ _ _ _ _)
      | (with_reducible exact ih3 _ _ _ _ _ _ _ _ _ _ _ _)
      | (with_reducible exact ih4 _ _ _ _ _ _ _ _ _ _ _)
      | (with_reducible exact ih5 _ _ _ _ _ _ _ _ _ _ _)
      | (with_reducible exact impl_ValidDebts.mono _ _ _)
      | (with_reducible exact impl_sumsOf.mono _ _)
      | (with_reducible exact LeO.refl _)
      | (with_reducible exact LeO.none _)
      | (with_reducible refine LeO.ite ?_ ?_)
      | (with_reducible refine LeO.bind ?_ (fun _ => ?_))
      | exact ih0 _ _ _ _ _ _
      | exact ih1 _ _ _ _ _ _
      | exact ih2 _ _ _ _ _ _ _ _
      | exact ih3 _ _ _ _ _ _ _ _ _ _ _ _
      | exact ih4 _ _ _ _ _ _ _ _ _ _ _
      | exact ih5 _ _ _ _ _ _ _ _ _ _ _
      | exact impl_ValidDebts.mono _ _ _
      | exact impl_sumsOf.mono _ _
      | exact LeO.none _
      | refine LeO.ite ?_ ?_
      | refine LeO.bind ?_ (fun _ => ?_)
    · intro y0 y1 y2 y3 y4 y5 y6 y7 y8 y9 y10 y11
      unfold impl_CanPayFrom.l3
      repeat' first
      | (with_reducible exact ih0 _ _ _ _ _ _)
      | (with_reducible exact ih1 _ _ _ _ _ _)
      | (with_reducible exact ih2 _ _ _ _ _ _ _ _)
      | (with_reducible exact ih3 _ _ _ _ _ _ _ _ _ _ _ _)
      | (with_reducible exact ih4 _ _ _ _ _ _ _ _ _ _ _)
      | (with_reducible exact ih5 _ _ _ _ _ _ _ _ _ _ _)
      | (with_reducible exact impl_ValidDebts.mono _ _ _)
      | (with_reducible exact impl_sumsOf.mono _ _)
      | (with_reducible exact LeO.refl _)
      | (with_reducible exact LeO.none _)
      | (with_reducible refine LeO.ite ?_ ?_)
      | (with_reducible refine LeO.bind ?_ (fun _ => ?_))
      | exact ih0 _ _ _ _ _ _
      | exact ih1 _ _ _ _ _ _
      | exact ih2 _ _ _ _ _ _ _ _
      | exact ih3 _ _ _ _ _ _ _ _ _ _ _ _
      | exact ih4 _ _ _ _ _ _ _ _ _ _ _
      | exact ih5 _ _ _ _ _ _ _ _ _ _ _
      | exact impl_ValidDebts.mono _ _ _
      | exact impl_sumsOf.mono _ _
      | exact LeO.none _
      | refine LeO.ite ?_ ?_
      | refine LeO.bind ?_ (fun _ => ?_)
    · intro y0 y1 y2 y3 y4 y5 y6 y7 y8 y9 y10
      unfold impl_CanPayFrom.j4
      repeat' first
      | (with_reducible exact ih0 _ _ _ _ _ _)
      | (with_reducible exact ih1 _ _ _ _ _ _)
      | (with_reducible exact ih2 _ _ _ _ _ _ _ _)
      | (with_reducible exact ih3 _ _ _ _ _ _ _ _ _ _ _ _)
      | (with_reducible exact ih4 _ _ _ _ _ _ _ _ _ _ _)
      | (with_reducible exact ih5 _ _ _ _ _ _ _ _ _ _ _)
      | (with_reducible exact impl_ValidDebts.mono _ _ _)
      | (with_reducible exact impl_sumsOf.mono _ _)
      | (with_reducible exact LeO.refl _)
      | (with_reducible exact LeO.none _)
      | (with_reducible refine LeO.ite ?_ ?_)
      | (with_reducible refine LeO.bind ?_ (fun _ => ?_))
      | exact ih0 _ _ _ _ _ _
      | exact ih1 _ _ _ _ _ _
      | exact ih2 _ _ _ _ _ _ _ _
      | exact ih3 _ _ _ _ _ _ _ _ _ _ _ _
      | exact ih4 _ _ _ _ _ _ _ _ _ _ _
      | exact ih5 _ _ _ _ _ _ _ _ _ _ _
      | exact impl_ValidDebts.mono _ _ _
      | exact impl_sumsOf.mono _ _
      | exact LeO.none _
      | refine LeO.ite ?_ ?_
      | refine LeO.bind ?_ (fun _ => ?_)
    · intro y0 y1 y2 y3 y4 y5 y6 y7 y8 y9 y10
      unfold impl_CanPayFrom.l4
      repeat' first
      | (with_reducible exact ih0 _ _ _ _ _ _)
      | (with_reducible exact ih1 _ _ _ _ _ _)
      | (with_reducible exact ih2 _ _ _ _ _ _ _ _)
      | (with_reducible exact ih3 _ _ _ _ _ _ _ _ _ _ _ _)
      | (with_reducible exact ih4 _ _ _ _ _ _ _ _ _ _ _)
      | (with_reducible exact ih5 _ _ _ _ _ _ _ _ _ _ _)
      | (with_reducible exact impl_ValidDebts.mono _ _ _)
      | (with_reducible exact impl_sumsOf.mono _ _)
      | (with_reducible exact LeO.refl _)
      | (with_reducible exact LeO.none _)
      | (with_reducible refine LeO.ite ?_ ?_)
      | (with_reducible refine LeO.bind ?_ (fun _ => ?_))
      | exact ih0 _ _ _ _ _ _
      | exact ih1 _ _ _ _ _ _
      | exact ih2 _ _ _ _ _ _ _ _
      | exact ih3 _ _ _ _ _ _ _ _ _ _ _ _
      | exact ih4 _ _ _ _ _ _ _ _ _ _ _
      | exact ih5 _ _ _ _ _ _ _ _ _ _ _
      | exact impl_ValidDebts.mono _ _ _
      | exact impl_sumsOf.mono _ _
      | exact LeO.none _
      | refine LeO.ite ?_ ?_
      | refine LeO.bind ?_ (fun _ => ?_)
theorem impl_CanPayFrom.mono : ∀ a0 a1 a2 k, LeO (impl_CanPayFrom.f k a0 a1 a2) (impl_CanPayFrom.f (k + 1) a0 a1 a2) := by
  intro a0 a1 a2 k
  obtain ⟨ih0, ih1, ih2, ih3, ih4, ih5⟩ := impl_CanPayFrom.mono_l k
  unfold impl_CanPayFrom.f
  repeat' first
      | (with_reducible exact ih0 _ _ _ _ _ _)
      | (with_reducible exact ih1 _ _ _ _ _ _)
      | (with_reducible exact ih2 _ _ _ _ _ _ _ _)
      | (with_reducible exact ih3 _ _ _ _ _ _ _ _ _ _ _ _)
      | (with_reducible exact ih4 _ _ _ _ _ _ _ _ _ _ _)
      | (with_reducible exact ih5 _ _ _ _ _ _ _ _ _ _ _)
      | (with_reducible exact impl_ValidDebts.mono _ _ _)
      | (with_reducible exact impl_sumsOf.mono _ _)
      | (with_reducible exact LeO.refl _)
      | (with_reducible exact LeO.none _)
      | (with_reducible refine LeO.ite ?_ ?_)
      | (with_reducible refine LeO.bind ?_ (fun _ => ?_))
      | exact ih0 _ _ _ _ _ _
      | exact ih1 _ _ _ _ _ _
      | exact ih2 _ _ _ _ _ _ _ _
      | exact ih3 _ _ _ _ _ _ _ _ _ _ _ _
      | exact ih4 _ _ _ _ _ _ _ _ _ _ _
      | exact ih5 _ _ _ _ _ _ _ _ _ _ _
      | exact impl_ValidDebts.mono _ _ _
      | exact impl_sumsOf.mono _ _
      | exact LeO.none _
      | refine LeO.ite ?_ ?_
      | refine LeO.bind ?_ (fun _ => ?_)
def impl_CanPayFrom.T34 : Bool × List (List Nat × List Nat) := (true, [([], []), ([], []), ([0, 1], [0, 1]), ([2], [2]), ([], []), ([], []), ([4], [4]), ([6, 5], [5, 6]), ([7], [7]), ([3, 8], [3, 8]), ([0, 1, 0, 1, 2, 3, 4, 5, 6, 7, 8, 9], [0, 1]), ([10, 9, 0, 1, 2, 3, 4, 5, 6, 7, 8, 9], [9, 10])])
def impl_CanPayFrom.B34 : List Nat := [0, 0, 3, 7, 0, 0, 16, 112, 240, 511, 1023, 2047]
theorem impl_CanPayFrom.tab34 : rtab .any (opsOf Try.f43 34) = impl_CanPayFrom.T34 := by kernel_rfl
theorem impl_CanPayFrom.bits34 : waitsOk impl_CanPayFrom.T34.2 impl_CanPayFrom.B34 = true := by kernel_rfl
set_option maxHeartbeats 8000000 in
set_option maxRecDepth 100000 in
theorem impl_CanPayFrom.calls (k : Nat) (a0 : Int) (A1 : Option Addr) (c1 : Nat) (l1 : List (S65)) (A2 : Option Addr) (c2 : Nat) (l2 : List Int) (r1 : List Int) (r2 : Int) (w : World) (hr1 : Kd.C k65 w A1 l1.length l1) (hc1 : l1.length ≤ c1) (hr2 : Kd.C (Kd.int .i64) w A2 l2.length l2) (hc2 : l2.length ≤ c2) (h : impl_CanPayFrom.f k a0 l1 l2 = some (r1, r2)) :
    Calls Try.prog 43 #[.int .i64 a0, .slice A1 l1.length c1, .slice A2 l2.length c2] w fun e w' => ∃ v0_ : Value, e = .returned (.tuple #[v0_, .int .i64 r2]) ∧ Kd.R (Kd.int .i64) 2 w' w.heap.size (fun _ => True) v0_ r1 ∧ Below w.heap.size w w' := by
  have hu70 := Try.underlying70
  have hu61 := Try.underlying61
  have HR1 := Aside0.mk hr1
  have HC1 := Aside0.mk hc1
  clear hr1 hc1
  have HR2 := Aside0.mk hr2
  have HC2 := Aside0.mk hc2
  clear hr2 hc2
  have HB := Aside0.mk (Below.refl w.heap.size w)
  have H : ((impl_ValidDebts.f k a0 l1).bind fun t199 => (if t199 = true then (if (l2.length : Int) = a0 then (impl_CanPayFrom.l0 k a0 l1 l2 l2 (l2.length : Int) 0) else (some (([] : List Int), 2))) else (some (([] : List Int), 1)))) = some (r1, r2) := h
  clear h
  replace H := Option.bind_eq_some_iff.mp H
  obtain ⟨t199, A40, H⟩ := H
  replace H : (if t199 = true then (if (l2.length : Int) = a0 then (impl_CanPayFrom.l0 k a0 l1 l2 l2 (l2.length : Int) 0) else (some (([] : List Int), 2))) else (some (([] : List Int), 1))) = some (r1, r2) := H
  have A4 := Aside0.mk A40
  clear A40
  by_cases c5 : t199 = true
  · subst c5
    have H1 : (if (l2.length : Int) = a0 then (impl_CanPayFrom.l0 k a0 l1 l2 l2 (l2.length : Int) 0) else (some (([] : List Int), 2))) = some (r1, r2) := by rw [if_pos rfl] at H; exact H
    clear H
    have H := H1
    clear H1
    by_cases c6 : (l2.length : Int) = a0
    · rw [if_pos c6] at H
      have c6b0 : ((l2.length : Int) == a0) = true := beq_iff_eq.mpr c6
      have c6b1 : ((l2.length : Int) != a0) = false := bne_eq_false_iff_eq.mpr c6
      clear c6
      have H' := Aside0.mk H
      clear H
      go_enter Try.func43, Try.ntmps43
      go_wp2_with (first | ((with_reducible refine gate_callee (f := 61) rfl ?_); refine goesL_ (some 22) rfl rfl Try.func61 (by kernel_rfl) rfl #[.int .i64 a0, .slice A1 l1.length c1] rfl (by (try simp only [List.map_toArray, List.map_cons, List.map_nil]); first | done | (go_simp; done) | rfl | (simp only [List.length_drop, List.length_take]; rfl)) ?_; (with_reducible refine (impl_ValidDebts.calls k a0 _ _ l1 true _ ?side1 ?side2 A4.out).mono ?_); (case side1 => repeat (first | exact HR1.out | (with_reducible refine Kd.C_alloc ?_ _) | (with_reducible refine Kd.C_drewN ?_ _) | (with_reducible refine Kd.C_drew ?_))); (case side2 => exact HC1.out); rintro e w7 ⟨rfl, hb⟩; refine ⟨_, rfl, ?_⟩; have n0_ := Aside0.mk (below_step (by repeat (first | (with_reducible first | exact HB.out | apply below_alloc | apply pw_below_drewN | apply below_drew1) | exact HB.out)) hb); clear HB; have HB := n0_; clear n0_; (try clear hb); (try clear hb2); (try clear hk); (try clear hi)))
      go_loopg [30] k (fun kq v30 w' => ∃ (x30_1 : Int), v30 = .int .i64 x30_1 ∧ Aside0 (impl_CanPayFrom.l0 kq a0 l1 l2 l2 (l2.length : Int) x30_1 = some (r1, r2)) ∧ Aside0 (kq ≤ k) ∧ Aside0 (Below w.heap.size w w'))
      case atStart => exact ⟨(0), (by first | rfl | (simp; done) | (simp [*]; done)), H', ⟨Nat.le_refl _⟩, ⟨by repeat (first | (with_reducible first | exact HB.out | apply below_alloc | apply pw_below_drewN | apply below_drew1) | exact HB.out)⟩⟩
      case round =>
        clear H'
        try clear c1
        try clear c2
        try clear p2
        try clear c4
        try clear c5
        try clear c6
        try clear c6b0
        try clear c6b1
        obtain ⟨x30_1, rfl, HA, HK1, HB⟩ := hrel
        cases gk with
        | zero => exact absurd HA.out (by simp [impl_CanPayFrom.l0])
        | succ k1 =>
          have H := HA.out
          clear HA
          simp only [impl_CanPayFrom.l0] at H
          by_cases c8 : x30_1 < (l2.length : Int)
          · rw [if_pos c8] at H
            have c8b0 : decide (x30_1 < (l2.length : Int)) = true := decide_eq_true c8
            clear c8
            by_cases c9 : 0 ≤ x30_1
            · rw [if_pos c9] at H
              have c9b0 : decide (0 ≤ x30_1) = true := decide_eq_true c9
              clear c9
              by_cases c10 : x30_1 < (l2.length : Int)
              · rw [if_pos c10] at H
                have c10b0 : decide (x30_1 < (l2.length : Int)) = true := decide_eq_true c10
                clear c10
                replace H := Option.bind_eq_some_iff.mp H
                obtain ⟨t201, A110, H⟩ := H
                replace H : (if t201 = true then (impl_CanPayFrom.l0 k1 a0 l1 l2 l2 (l2.length : Int) (wrap64 (x30_1 + 1))) else (some (([] : List Int), 2))) = some (r1, r2) := H
                have A11 := Aside0.mk A110
                clear A110
                by_cases c12 : t201 = true
                · subst c12
                  have H1 : (impl_CanPayFrom.l0 k1 a0 l1 l2 l2 (l2.length : Int) (wrap64 (x30_1 + 1))) = some (r1, r2) := by rw [if_pos rfl] at H; exact H
                  clear H
                  have H := H1
                  clear H1
                  have H' := Aside0.mk H
                  clear H
                  have p200 : 0 ≤ (x30_1 : Int) := of_decide_eq_true (by first | (with_reducible assumption) | assumption)
                  have q200 : x30_1 < (l2.length : Int) := of_decide_eq_true (by first | (with_reducible assumption) | assumption)
                  obtain ⟨ad200, e200, hx200_0⟩ := Kd.at_int HR2.out x30_1 p200 q200
                  cases e200
                  replace hx200_0 := (HB.out.cell (World.block_lt_of_cell? w _ hx200_0)).trans hx200_0
                  replace p200 := eq_true p200
                  replace q200 := eq_true q200
                  go_wp2_with (first | ((with_reducible refine gate_callee (f := 78) rfl ?_); refine goesL_ (some 35) rfl rfl Try.func78 (by kernel_rfl) rfl #[.int .i64 (rd l2 x30_1)] rfl (by (try simp only [List.map_toArray, List.map_cons, List.map_nil]); first | done | (go_simp; done) | rfl | (simp only [List.length_drop, List.length_take]; rfl)) ?_; (with_reducible refine (impl_isAmount.calls (rd l2 x30_1) true _ A11.out).mono ?_); rintro e w' ⟨rfl, ⟨nd, rfl⟩⟩; refine ⟨_, rfl, ?_⟩))
                  go_roundg k1
                  case measure => have := HK1.out; omega
                  case rel => exact ⟨(wrap64 (x30_1 + 1)), (by first | rfl | (simp; done) | (simp [*]; done)), H', ⟨by have := HK1.out; omega⟩, ⟨by repeat (first | (with_reducible first | exact HB.out | apply below_alloc | apply pw_below_drewN | apply below_drew1) | exact HB.out)⟩⟩
                · replace c12 := Bool.eq_false_iff.mpr c12
                  subst c12
                  have H1 : (some (([] : List Int), 2)) = some (r1, r2) := by rw [if_neg (show ¬ (false = true) by decide)] at H; exact H
                  clear H
                  have H := H1
                  clear H1
                  simp only [Option.some.injEq, Prod.mk.injEq] at H
                  obtain ⟨rfl, rfl⟩ := H
                  have p200 : 0 ≤ (x30_1 : Int) := of_decide_eq_true (by first | (with_reducible assumption) | assumption)
                  have q200 : x30_1 < (l2.length : Int) := of_decide_eq_true (by first | (with_reducible assumption) | assumption)
                  obtain ⟨ad200, e200, hx200_0⟩ := Kd.at_int HR2.out x30_1 p200 q200
                  cases e200
                  replace hx200_0 := (HB.out.cell (World.block_lt_of_cell? w _ hx200_0)).trans hx200_0
                  replace p200 := eq_true p200
                  replace q200 := eq_true q200
                  go_wp2_with (first | ((with_reducible refine gate_callee (f := 78) rfl ?_); refine goesL_ (some 35) rfl rfl Try.func78 (by kernel_rfl) rfl #[.int .i64 (rd l2 x30_1)] rfl (by (try simp only [List.map_toArray, List.map_cons, List.map_nil]); first | done | (go_simp; done) | rfl | (simp only [List.length_drop, List.length_take]; rfl)) ?_; (with_reducible refine (impl_isAmount.calls (rd l2 x30_1) false _ A11.out).mono ?_); rintro e w' ⟨rfl, ⟨nd, rfl⟩⟩; refine ⟨_, rfl, ?_⟩))
                  go_ret2
                  exact ⟨_, by first | rfl | (simp [errW_none, errW_some] <;> rfl) | (simp [*, errW_none, errW_some] <;> rfl), by first | exact Kd.R_nil _ _ _ _ _ | exact Kd.N_nil _ _ _ _ _ | exact Kd.V_nil _ _ _ _ _ | exact Kd.Q_nil _ _ _ _ _ | exact Kd.S_nil _ _ _ _ _, by repeat (first | (with_reducible first | exact HB.out | apply below_alloc | apply pw_below_drewN | apply below_drew1) | exact HB.out)⟩
              · rw [if_neg c10] at H
                exact absurd H (by simp)
            · rw [if_neg c9] at H
              exact absurd H (by simp)
          · rw [if_neg c8] at H
            have c8b0 : decide (x30_1 < (l2.length : Int)) = false := decide_eq_false c8
            clear c8
            replace H := Option.bind_eq_some_iff.mp H
            obtain ⟨t202, A130, H⟩ := H
            replace H : ((slices_Clone_int64_int64.f l2).bind fun t203 => (if 0 ≤ a0 then (if (a0 : Int).toNat ≤ 281474976710656 then (impl_CanPayFrom.l1 k1 a0 t203 (List.replicate (a0 : Int).toNat false) (([] : List Int)) true t202) else (none)) else (none))) = some (r1, r2) := H
            have A13 := Aside0.mk A130
            clear A130
            replace H := Option.bind_eq_some_iff.mp H
            obtain ⟨t203, A140, H⟩ := H
            replace H : (if 0 ≤ a0 then (if (a0 : Int).toNat ≤ 281474976710656 then (impl_CanPayFrom.l1 k1 a0 t203 (List.replicate (a0 : Int).toNat false) (([] : List Int)) true t202) else (none)) else (none)) = some (r1, r2) := H
            have A14 := Aside0.mk A140
            clear A140
            by_cases c16 : 0 ≤ a0
            · rw [if_pos c16] at H
              have c16b0 := eq_true c16
              have c16b1 : decide (0 ≤ a0) = true := decide_eq_true c16
              clear c16
              by_cases c17 : (a0 : Int).toNat ≤ 281474976710656
              · rw [if_pos c17] at H
                have c17b0 := eq_true c17
                have c17b1 : decide ((a0 : Int).toNat ≤ 281474976710656) = true := decide_eq_true c17
                clear c17
                obtain ⟨y207, hy207⟩ : ∃ y_ : List Bool, y_ = (List.replicate (a0 : Int).toNat false) := ⟨_, rfl⟩
                replace H : (impl_CanPayFrom.l1 k1 a0 t203 y207 (([] : List Int)) true t202) = some (r1, r2) := by first | (rw [hy207]; with_reducible exact H) | (have H2_ := (Option.bind_some _ _).symm.trans H; rw [hy207]; with_reducible exact H2_) | (have H2_ := (Option.bind_some _ _).symm.trans H; with_reducible exact H2_) | with_reducible exact H | (rw [hy207]; exact H) | exact H
                have Ny207 := Aside0.mk hy207
                clear hy207
                obtain ⟨y210, hy210⟩ : ∃ y_ : List Int, y_ = (([] : List Int)) := ⟨_, rfl⟩
                replace H : (impl_CanPayFrom.l1 k1 a0 t203 y207 y210 true t202) = some (r1, r2) := by first | (rw [hy210]; with_reducible exact H) | (have H2_ := (Option.bind_some _ _).symm.trans H; rw [hy210]; with_reducible exact H2_) | (have H2_ := (Option.bind_some _ _).symm.trans H; with_reducible exact H2_) | with_reducible exact H | (rw [hy210]; exact H) | exact H
                have Ny210 := Aside0.mk hy210
                clear hy210
                have H' := Aside0.mk H
                clear H
                go_wp2_with (first | ((with_reducible refine gate_callee (f := 57) rfl ?_); refine goesL_ (some 39) rfl rfl Try.func57 (by kernel_rfl) rfl #[.slice A1 l1.length c1] rfl (by (try simp only [List.map_toArray, List.map_cons, List.map_nil]); first | done | (go_simp; done) | rfl | (simp only [List.length_drop, List.length_take]; rfl)) ?_; (with_reducible refine (impl_sumsOf.calls k1 _ _ l1 t202 _ ?side1 ?side2 A13.out).mono ?_); (case side1 => repeat (first | exact (Kd.C_below HR1.out HB.out) | (with_reducible refine Kd.C_alloc ?_ _) | (with_reducible refine Kd.C_drewN ?_ _) | (with_reducible refine Kd.C_drew ?_))); (case side2 => exact HC1.out); rintro e w18 ⟨rfl, hb⟩; refine ⟨_, rfl, ?_⟩; have n0_ := Aside0.mk (below_step (by repeat (first | (with_reducible first | exact HB.out | apply below_alloc | apply pw_below_drewN | apply below_drew1) | exact HB.out)) hb); clear HB; have HB := n0_; clear n0_; (try clear hb); (try clear hb2); (try clear hk); (try clear hi)) | ((with_reducible refine gate_callee (f := 79) rfl ?_); refine goesL_ (some 41) rfl rfl Try.func79 (by kernel_rfl) rfl #[.slice A2 l2.length c2] rfl (by (try simp only [List.map_toArray, List.map_cons, List.map_nil]); first | done | (go_simp; done) | rfl | (simp only [List.length_drop, List.length_take]; rfl)) ?_; (with_reducible refine (slices_Clone_int64_int64.calls _ _ l2 t203 _ ?side1 ?side2 A14.out).mono ?_); (case side1 => repeat (first | exact (Kd.C_below HR2.out HB.out) | (with_reducible refine Kd.C_alloc ?_ _) | (with_reducible refine Kd.C_drewN ?_ _) | (with_reducible refine Kd.C_drew ?_))); (case side2 => exact HC2.out); rintro e w19 ⟨v204, rfl, ho0, hb⟩; refine ⟨_, rfl, ?_⟩; have n0_ := Aside0.mk (Kd.R_lower ho0 (below_size (by repeat (first | (with_reducible first | exact HB.out | apply below_alloc | apply pw_below_drewN | apply below_drew1) | exact HB.out)))); have n1_ := Aside0.mk (below_step (by repeat (first | (with_reducible first | exact HB.out | apply below_alloc | apply pw_below_drewN | apply below_drew1) | exact HB.out)) hb); clear HB; have HO205 := n0_; have HB := n1_; clear n0_ n1_; (try clear hb); (try clear hb2); (try clear hk); (try clear hi); (try clear ho0)) | ((with_reducible refine gate_dst (N := 10) rfl ?_); refine box_event ?hg (N := 10) ?hd (cs := (⟨Arr.arL .i64 (Vector.replicate 256 0 : Vector Int 256)⟩ : Array Value)) (t := 70) ?hr ?_; (case hd => rfl); (case hg => rfl); (case hr => first | (go_simp; done) | (go_simp; rfl)); intro gb206 hg w20 hbox hb; have n0_ := Aside0.mk (Kd.R_below (by (with_reducible repeat (first | apply Kd.R_alloc | apply Kd.R_drewN | apply Kd.R_drew)); exact HO205.out) hb); have n1_ := Aside0.mk (below_step (by repeat (first | (with_reducible first | exact HB.out | apply below_alloc | apply pw_below_drewN | apply below_drew1) | exact HB.out)) hb); have n2_ := Aside0.mk (hbox); have n3_ := Aside0.mk ((by rw [hg]; exact (below_size (by repeat (first | (with_reducible first | exact HB.out | apply below_alloc | apply pw_below_drewN | apply below_drew1) | exact HB.out))) : w.heap.size ≤ gb206)); have n4_ := Aside0.mk ((by rw [hg]; exact (below_size (by repeat (first | (with_reducible first | exact HB.out | apply below_alloc | apply pw_below_drewN | apply below_drew1) | exact HB.out))) : w.heap.size ≤ gb206)); clear HO205; clear HB; have HO205 := n0_; have HB := n1_; have BK206 := n2_; have GW206 := n3_; have GE206 := n4_; clear n0_ n1_ n2_ n3_ n4_; clear hb hbox hg) | ((with_reducible refine gate_store (t := 70) (p := 10) rfl ?_); refine Arr.storeA ?hg (T := 70) (p := 10) (v := ?vo_w21) ?ho ?hn (g := gb206) (off := 0) ?hx (m := (Arr.arL .i64 t202)) ?hy (t := 70) (pre := []) (old := (Arr.arL .i64 (Vector.replicate 256 0 : Vector Int 256))) (show w20.heap[gb206]? = some (.cells (⟨Arr.arL .i64 (Vector.replicate 256 0 : Vector Int 256)⟩ : Array Value) 70 (0, 0)) from by (with_reducible repeat (first | refine blk_drewN ?_ _ | refine blk_drew ?_ | refine blk_alloc ?_ _)); exact BK206.out) rfl (by simp [Arr.arL_length]) (n := 256) (by kernel_rfl) (by simp [Arr.arL_length]) (Arr.ones_0 ) ?_; (case ho => rfl); (case hg => rfl); (case hn => rfl); (case hx => first | (go_simp; done) | rfl | (go_simp; rfl)); (case hy => first | (go_simp; done) | rfl | (go_simp; rfl)); intro w21 hbx hg hbe; replace hbx : w21.heap[gb206]? = some (.cells (⟨Arr.arL .i64 t202⟩ : Array Value) 70 (0, 0)) := hbx; have n0_ := Aside0.mk (Kd.R_grown1 (by (with_reducible repeat (first | apply Kd.R_alloc | apply Kd.R_drewN | apply Kd.R_drew)); exact HO205.out) rfl hg (Kd.R_ne HO205.out BK206.out (by decide))); have n1_ := Aside0.mk (hbx); have n2_ := Aside0.mk (hbe _ _ (by repeat (first | (with_reducible first | exact HB.out | apply below_alloc | apply pw_below_drewN | apply below_drew1 | refine below_set ?_ GE206.out) | exact HB.out)) GE206.out); clear HO205; clear BK206; clear HB; have HO205 := n0_; have BK206 := n1_; have HB := n2_; clear n0_ n1_ n2_; (try clear hbx hg hbe)) | ((with_reducible refine gate_dst (N := 43) rfl ?_); refine Kd.R_make Kd.bool _ 4 rfl (N := 43) rfl 88 _ _ rfl a0 rfl rfl Try.underlying88 (.bool false) 1 info4 rfl (by decide) (by omega) false (ok := fun _ => True) (okp := fun _ => True) rfl (fun _ hk => hk) trivial (of_decide_eq_true (by first | (with_reducible assumption) | assumption)) (Nat.le_trans (Nat.mul_le_mul_right _ (of_decide_eq_true (by first | (with_reducible assumption) | assumption) : a0.toNat ≤ 281474976710656)) (by omega)) (Below.refl _ _) (Nat.le_refl _) ?_; intro v208 w22 ho23 hb hg_ hnew_; clear hg_ hnew_; (first | rw [← Ny207.out] at ho23 | (simp only [Int.reduceToNat] at ho23; rw [← Ny207.out] at ho23)); have n0_ := Aside0.mk (Kd.R_below (by (with_reducible repeat (first | apply Kd.R_alloc | apply Kd.R_drewN | apply Kd.R_drew)); exact HO205.out) hb); have n1_ := Aside0.mk (Kd.R_lower ho23 (below_size (by repeat (first | (with_reducible first | exact HB.out | apply below_alloc | apply pw_below_drewN | apply below_drew1 | refine below_set ?_ GE206.out) | exact HB.out)))); have n2_ := Aside0.mk (blk_below (g := gb206) (o := .cells (⟨Arr.arL .i64 t202⟩ : Array Value) 70 (0, 0)) (by (with_reducible repeat (first | refine blk_drewN ?_ _ | refine blk_drew ?_ | refine blk_alloc ?_ _)); exact BK206.out) hb); have n3_ := Aside0.mk (below_step (by repeat (first | (with_reducible first | exact HB.out | apply below_alloc | apply pw_below_drewN | apply below_drew1 | refine below_set ?_ GE206.out) | exact HB.out)) hb); clear HO205; clear BK206; clear HB; have HO205 := n0_; have HO209 := n1_; have BK206 := n2_; have HB := n3_; clear n0_ n1_ n2_ n3_; clear hb ho23) | ((with_reducible refine gate_dst (N := 44) rfl ?_); refine Kd.R_lit (Kd.int .i64) _ 2 ?hg (N := 44) ?hd (xs := ([] : List Int)) (inner := []) (ok := fun _ => True) (okp := fun _ => True) ?hr ?hp (fun _ hk => hk) trivial (Below.refl _ _) (Nat.le_refl _) (by simp) ?_; (case hd => rfl); (case hg => rfl); (case hr => first | (go_simp; done) | (go_simp; rfl)); (case hp => exact (Reps.none _ _)); intro v211 w24 ho25 hb hg_ hnew_; clear hg_ hnew_; (first | rw [← Ny210.out] at ho25 | (simp only [Int.reduceToNat] at ho25; rw [← Ny210.out] at ho25)); have n0_ := Aside0.mk (Kd.R_elder' (by (with_reducible repeat (first | apply Kd.R_alloc | apply Kd.R_drewN | apply Kd.R_drew)); exact HO205.out) (Kd.R_base ho25) hb); have n1_ := Aside0.mk (Kd.R_below (by (with_reducible repeat (first | apply Kd.R_alloc | apply Kd.R_drewN | apply Kd.R_drew)); exact HO209.out) hb); have n2_ := Aside0.mk (Kd.R_lower (Kd.R_new' ho25 (Kd.R_lt (by (with_reducible repeat (first | apply Kd.R_alloc | apply Kd.R_drewN | apply Kd.R_drew)); exact HO205.out))) (below_size (by repeat (first | (with_reducible first | exact HB.out | apply below_alloc | apply pw_below_drewN | apply below_drew1 | refine below_set ?_ GE206.out) | exact HB.out)))); have n3_ := Aside0.mk (blk_below (g := gb206) (o := .cells (⟨Arr.arL .i64 t202⟩ : Array Value) 70 (0, 0)) (by (with_reducible repeat (first | refine blk_drewN ?_ _ | refine blk_drew ?_ | refine blk_alloc ?_ _)); exact BK206.out) hb); have n4_ := Aside0.mk (below_step (by repeat (first | (with_reducible first | exact HB.out | apply below_alloc | apply pw_below_drewN | apply below_drew1 | refine below_set ?_ GE206.out) | exact HB.out)) hb); clear HO205; clear HO209; clear BK206; clear HB; have HO205 := n0_; have HO209 := n1_; have HO212 := n2_; have BK206 := n3_; have HB := n4_; clear n0_ n1_ n2_ n3_ n4_; clear hb ho25))
                go_loopg [13, 14] k1 (fun kq v13 v14 w' => ∃ (x11_2 : List Int) (x12_2 : List Bool) (x13_2 : List Int) (x14_2 : Bool), v14 = .bool x14_2 ∧ Aside0 (impl_CanPayFrom.l1 kq a0 x11_2 x12_2 x13_2 x14_2 t202 = some (r1, r2)) ∧ Aside0 (kq ≤ k1) ∧ Aside0 (Kd.R (Kd.int .i64) 2 w' w.heap.size (fun k_ => some k_ ≠ (v13 : Value).ownBlock) v204 x11_2) ∧ Aside0 (Kd.R Kd.bool 4 w' w.heap.size (fun _ => True) v208 x12_2) ∧ Aside0 (Kd.R (Kd.int .i64) 2 w' w.heap.size (fun k_ => some k_ ≠ (v204 : Value).ownBlock) v13 x13_2) ∧ Aside0 (w'.heap[gb206]? = some (.cells (⟨Arr.arL .i64 t202⟩ : Array Value) 70 (0, 0))) ∧ Aside0 (Below w.heap.size w w'))
                case atStart => exact ⟨(t203), (y207), (y210), (true), (by first | rfl | (simp; done) | (simp [*]; done)), H', ⟨Nat.le_refl _⟩, ⟨by (with_reducible repeat (first | apply Kd.R_alloc | apply Kd.R_drewN | apply Kd.R_drew)); exact Kd.R_mono HO205.out (fun _ hk => hk.2)⟩, ⟨by (with_reducible repeat (first | apply Kd.R_alloc | apply Kd.R_drewN | apply Kd.R_drew)); exact HO209.out⟩, ⟨by (with_reducible repeat (first | apply Kd.R_alloc | apply Kd.R_drewN | apply Kd.R_drew)); exact Kd.R_mono HO212.out (fun _ hk => hk.2)⟩, ⟨by (with_reducible repeat (first | refine blk_drewN ?_ _ | refine blk_drew ?_ | refine blk_alloc ?_ _)); exact BK206.out⟩, ⟨by repeat (first | (with_reducible first | exact HB.out | apply below_alloc | apply pw_below_drewN | apply below_drew1 | refine below_set ?_ GE206.out) | exact HB.out)⟩⟩
                case round =>
                  clear H'
                  try clear c1
                  try clear c2
                  try clear p2
                  try clear q2
                  try clear hx2
                  try clear c4
                  try clear c5
                  try clear c6
                  try clear c6b0
                  try clear c6b1
                  try clear p6
                  try clear c7
                  try clear c8
                  try clear c8b0
                  try clear c9
                  try clear c9b0
                  try clear c10
                  try clear c10b0
                  try clear c12
                  try clear c16
                  try clear c16b0
                  try clear c16b1
                  try clear c17
                  try clear c17b0
                  try clear c17b1
                  try clear p20
                  try clear q20
                  try clear hx20
                  try clear hx200_0
                  try clear p2
                  try clear p200
                  try clear q200
                  obtain ⟨x11_2, x12_2, x13_2, x14_2, rfl, HA, HK2, HO_11, HO_12, HO_13, BK206, HB⟩ := hrel
                  cases gk with
                  | zero => exact absurd HA.out (by simp [impl_CanPayFrom.l1])
                  | succ k2 =>
                    have H := HA.out
                    clear HA
                    simp only [impl_CanPayFrom.l1] at H
                    by_cases c26 : x14_2 = true
                    · subst c26
                      have H1 : (impl_CanPayFrom.l2 k2 a0 x11_2 x12_2 x13_2 false a0 0 t202) = some (r1, r2) := by rw [if_pos rfl] at H; exact H
                      clear H
                      have H := H1
                      clear H1
                      have H' := Aside0.mk H
                      clear H
                      go_wp2
                      go_loopg [13, 14, 47] k2 (fun kq v13 v14 v47 w' => ∃ (x11_3 : List Int) (x12_3 : List Bool) (x13_3 : List Int) (x14_3 : Bool) (x47_3 : Int), v14 = .bool x14_3 ∧ v47 = .int .i64 x47_3 ∧ Aside0 (impl_CanPayFrom.l2 kq a0 x11_3 x12_3 x13_3 x14_3 a0 x47_3 t202 = some (r1, r2)) ∧ Aside0 (kq ≤ k2) ∧ Aside0 (Kd.R (Kd.int .i64) 2 w' w.heap.size (fun k_ => some k_ ≠ (v13 : Value).ownBlock) v204 x11_3) ∧ Aside0 (Kd.R Kd.bool 4 w' w.heap.size (fun _ => True) v208 x12_3) ∧ Aside0 (Kd.R (Kd.int .i64) 2 w' w.heap.size (fun k_ => some k_ ≠ (v204 : Value).ownBlock) v13 x13_3) ∧ Aside0 (w'.heap[gb206]? = some (.cells (⟨Arr.arL .i64 t202⟩ : Array Value) 70 (0, 0))) ∧ Aside0 (Below w.heap.size w w'))
                      case atStart => exact ⟨(x11_2), (x12_2), (x13_2), (false), (0), (by first | rfl | (simp; done) | (simp [*]; done)), (by first | rfl | (simp; done) | (simp [*]; done)), H', ⟨Nat.le_refl _⟩, ⟨by (with_reducible repeat (first | apply Kd.R_alloc | apply Kd.R_drewN | apply Kd.R_drew)); exact HO_11.out⟩, ⟨by (with_reducible repeat (first | apply Kd.R_alloc | apply Kd.R_drewN | apply Kd.R_drew)); exact HO_12.out⟩, ⟨by (with_reducible repeat (first | apply Kd.R_alloc | apply Kd.R_drewN | apply Kd.R_drew)); exact HO_13.out⟩, ⟨by (with_reducible repeat (first | refine blk_drewN ?_ _ | refine blk_drew ?_ | refine blk_alloc ?_ _)); exact BK206.out⟩, ⟨by repeat (first | (with_reducible first | exact HB.out | apply below_alloc | apply pw_below_drewN | apply below_drew1 | refine below_set ?_ GE206.out) | exact HB.out)⟩⟩
                      case round =>
                        clear H'
                        try clear c1
                        try clear c2
                        try clear p2
                        try clear q2
                        try clear hx2
                        try clear c4
                        try clear c5
                        try clear c6
                        try clear c6b0
                        try clear c6b1
                        try clear p6
                        try clear c7
                        try clear c8
                        try clear c8b0
                        try clear c9
                        try clear c9b0
                        try clear c10
                        try clear c10b0
                        try clear c12
                        try clear c16
                        try clear c16b0
                        try clear c16b1
                        try clear c17
                        try clear c17b0
                        try clear c17b1
                        try clear p20
                        try clear q20
                        try clear hx20
                        try clear c26
                        try clear hx200_0
                        try clear p2
                        try clear p20
                        try clear p200
                        try clear p6
                        try clear q2
                        try clear q20
                        try clear q200
                        obtain ⟨x11_3, x12_3, x13_3, x14_3, x47_3, rfl, rfl, HA, HK3, HO_11, HO_12, HO_13, BK206, HB⟩ := hrel
                        cases gk with
                        | zero => exact absurd HA.out (by simp [impl_CanPayFrom.l2])
                        | succ k3 =>
                          have H := HA.out
                          clear HA
                          simp only [impl_CanPayFrom.l2] at H
                          by_cases c27 : x47_3 < a0
                          · rw [if_pos c27] at H
                            have c27b0 : decide (x47_3 < a0) = true := decide_eq_true c27
                            clear c27
                            by_cases c28 : 0 ≤ x47_3
                            · rw [if_pos c28] at H
                              have c28b0 : decide (0 ≤ x47_3) = true := decide_eq_true c28
                              clear c28
                              by_cases c29 : x47_3 < 16
                              · rw [if_pos c29] at H
                                have c29b0 : decide (x47_3 < 16) = true := decide_eq_true c29
                                clear c29
                                have H' := Aside0.mk H
                                clear H
                                have p30 : 0 ≤ (x47_3 : Int) := of_decide_eq_true (by first | (with_reducible assumption) | assumption)
                                have q30 : (x47_3 : Int) < 16 := of_decide_eq_true (by first | (with_reducible assumption) | assumption)
                                replace p30 := eq_true p30
                                replace q30 := eq_true q30
                                go_wp2_with (first | ((with_reducible refine Arr.gate_load (t := 61) (p := 51) rfl ?_); (try (refine gate_guard (by rfl) ?_; dsimp only)); refine Arr.loadRow ?hg (T := 61) (p := 51) ?ho (g := gb206) (off := x47_3.toNat * 16) ?hx (t := 70) (pre := []) (v := t202) (m := 16) (j := x47_3) (fr := (0, 0)) (show wr.heap[gb206]? = some (.cells (⟨Arr.arL .i64 t202⟩ : Array Value) 70 (0, 0)) from by (with_reducible repeat (first | refine blk_drewN ?_ _ | refine blk_drew ?_ | refine blk_alloc ?_ _)); exact BK206.out) (by simp) (by have a0_ := of_eq_true p30; have b0_ := of_eq_true q30; omega) Try.underlying61 rfl (by kernel_rfl) ?_; (case hg => rfl); (case ho => rfl); (case hx => first | (go_simp; done) | rfl | (go_simp; rfl))))
                                go_loopg [16, 53] k3 (fun kq v16 v53 w' => ∃ (x16_4 : Int) (x53_4 : Int), v16 = .int .i64 x16_4 ∧ v53 = .int .i64 x53_4 ∧ Aside0 (impl_CanPayFrom.l3 kq a0 x11_3 x12_3 x13_3 x14_3 x47_3 x16_4 a0 x47_3 x53_4 (Arr.vrow 16 t202 x47_3) t202 = some (r1, r2)) ∧ Aside0 (kq ≤ k3) ∧ Aside0 (Kd.R (Kd.int .i64) 2 w' w.heap.size (fun k_ => some k_ ≠ (u13 : Value).ownBlock) v204 x11_3) ∧ Aside0 (Kd.R Kd.bool 4 w' w.heap.size (fun _ => True) v208 x12_3) ∧ Aside0 (Kd.R (Kd.int .i64) 2 w' w.heap.size (fun k_ => some k_ ≠ (v204 : Value).ownBlock) u13 x13_3) ∧ Aside0 (w'.heap[gb206]? = some (.cells (⟨Arr.arL .i64 t202⟩ : Array Value) 70 (0, 0))) ∧ Aside0 (Below w.heap.size w w'))
                                case atStart => exact ⟨(0), (0), (by first | rfl | (simp; done) | (simp [*]; done)), (by first | rfl | (simp; done) | (simp [*]; done)), H', ⟨Nat.le_refl _⟩, ⟨by (with_reducible repeat (first | apply Kd.R_alloc | apply Kd.R_drewN | apply Kd.R_drew)); exact HO_11.out⟩, ⟨by (with_reducible repeat (first | apply Kd.R_alloc | apply Kd.R_drewN | apply Kd.R_drew)); exact HO_12.out⟩, ⟨by (with_reducible repeat (first | apply Kd.R_alloc | apply Kd.R_drewN | apply Kd.R_drew)); exact HO_13.out⟩, ⟨by (with_reducible repeat (first | refine blk_drewN ?_ _ | refine blk_drew ?_ | refine blk_alloc ?_ _)); exact BK206.out⟩, ⟨by repeat (first | (with_reducible first | exact HB.out | apply below_alloc | apply pw_below_drewN | apply below_drew1 | refine below_set ?_ GE206.out) | exact HB.out)⟩⟩
                                case round =>
                                  clear H'
                                  try clear c1
                                  try clear c2
                                  try clear p2
                                  try clear q2
                                  try clear hx2
                                  try clear p3
                                  try clear q3
                                  try clear c4
                                  try clear c5
                                  try clear c6
                                  try clear c6b0
                                  try clear c6b1
                                  try clear p6
                                  try clear c7
                                  try clear c8
                                  try clear c8b0
                                  try clear c9
                                  try clear c9b0
                                  try clear c10
                                  try clear c10b0
                                  try clear c12
                                  try clear c16
                                  try clear c16b0
                                  try clear c16b1
                                  try clear c17
                                  try clear c17b0
                                  try clear c17b1
                                  try clear p20
                                  try clear q20
                                  try clear hx20
                                  try clear c26
                                  try clear c27
                                  try clear c27b0
                                  try clear c28
                                  try clear c28b0
                                  try clear c29
                                  try clear c29b0
                                  try clear p30
                                  try clear q30
                                  try clear hx200_0
                                  try clear p2
                                  try clear p20
                                  try clear p200
                                  try clear p30
                                  try clear p6
                                  try clear q2
                                  try clear q20
                                  try clear q200
                                  try clear q30
                                  obtain ⟨x16_4, x53_4, rfl, rfl, HA, HK4, HO_11, HO_12, HO_13, BK206, HB⟩ := hrel
                                  cases gk with
                                  | zero => exact absurd HA.out (by simp [impl_CanPayFrom.l3])
                                  | succ k4 =>
                                    have H := HA.out
                                    clear HA
                                    simp only [impl_CanPayFrom.l3] at H
                                    by_cases c32 : x53_4 < 16
                                    · rw [if_pos c32] at H
                                      have c32b0 : decide (x53_4 < 16) = true := decide_eq_true c32
                                      clear c32
                                      by_cases c33 : 0 ≤ x53_4
                                      · rw [if_pos c33] at H
                                        have c33b0 : decide (0 ≤ x53_4) = true := decide_eq_true c33
                                        clear c33
                                        have H' := Aside0.mk H
                                        clear H
                                        have hx34 := fun W_ => Arr.index_arr (P := Try.prog) (w := W_) Try.underlying61 Try.underlying2 (by kernel_rfl) (by kernel_rfl) (Arr.vrow 16 t202 x47_3) x53_4 .i64 (of_decide_eq_true (by first | (with_reducible assumption) | assumption)) (of_decide_eq_true (by first | (with_reducible assumption) | assumption))
                                        have p34 : 0 ≤ (x53_4 : Int) := of_decide_eq_true (by first | (with_reducible assumption) | assumption)
                                        have q34 : (x53_4 : Int) < 16 := of_decide_eq_true (by first | (with_reducible assumption) | assumption)
                                        replace p34 := eq_true p34
                                        replace q34 := eq_true q34
                                        go_wp2
                                        go_roundg k4
                                        case measure => have := HK1.out; have := HK2.out; have := HK3.out; have := HK4.out; omega
                                        case rel => exact ⟨(wrap64 (x16_4 + (Arr.vrd (Arr.vrow 16 t202 x47_3) x53_4))), (wrap64 (x53_4 + 1)), (by first | rfl | (simp; done) | (simp [*]; done)), (by first | rfl | (simp; done) | (simp [*]; done)), H', ⟨by have := HK1.out; have := HK2.out; have := HK3.out; have := HK4.out; omega⟩, ⟨by (with_reducible repeat (first | apply Kd.R_alloc | apply Kd.R_drewN | apply Kd.R_drew)); exact HO_11.out⟩, ⟨by (with_reducible repeat (first | apply Kd.R_alloc | apply Kd.R_drewN | apply Kd.R_drew)); exact HO_12.out⟩, ⟨by (with_reducible repeat (first | apply Kd.R_alloc | apply Kd.R_drewN | apply Kd.R_drew)); exact HO_13.out⟩, ⟨by (with_reducible repeat (first | refine blk_drewN ?_ _ | refine blk_drew ?_ | refine blk_alloc ?_ _)); exact BK206.out⟩, ⟨by repeat (first | (with_reducible first | exact HB.out | apply below_alloc | apply pw_below_drewN | apply below_drew1 | refine below_set ?_ GE206.out) | exact HB.out)⟩⟩
                                      · rw [if_neg c33] at H
                                        exact absurd H (by simp)
                                    · rw [if_neg c32] at H
                                      have c32b0 : decide (x53_4 < 16) = false := decide_eq_false c32
                                      clear c32
                                      have HC35 := Aside0.mk H
                                      clear H
                                      go_upto_region 26 with (fail)
                                      go_cut [71] (fun v71 wc => ∃ (kq : Nat) (x71_34 : Bool), v71 = .bool x71_34 ∧ Aside0 (impl_CanPayFrom.j4 kq a0 x11_3 x12_3 x13_3 x14_3 x47_3 x16_4 a0 x47_3 x71_34 t202 = some (r1, r2)) ∧ Aside0 (kq ≤ k4) ∧ Aside0 (Kd.R (Kd.int .i64) 2 wc w.heap.size (fun k_ => some k_ ≠ (u13 : Value).ownBlock) v204 x11_3) ∧ Aside0 (Kd.R Kd.bool 4 wc w.heap.size (fun _ => True) v208 x12_3) ∧ Aside0 (Kd.R (Kd.int .i64) 2 wc w.heap.size (fun k_ => some k_ ≠ (v204 : Value).ownBlock) u13 x13_3) ∧ Aside0 (wc.heap[gb206]? = some (.cells (⟨Arr.arL .i64 t202⟩ : Array Value) 70 (0, 0))) ∧ Aside0 (Below w.heap.size w wc))
                                      case first =>
                                        have H := HC35.out
                                        clear HC35
                                        by_cases c36 : 0 ≤ x47_3
                                        · rw [if_pos c36] at H
                                          have c36b0 : decide (0 ≤ x47_3) = true := decide_eq_true c36
                                          clear c36
                                          (first | rw [c36b0] | (simp only [i64_w, i32_w]; rw [c36b0]) | skip)
                                          by_cases c37 : x47_3 < (x12_3.length : Int)
                                          · rw [if_pos c37] at H
                                            have c37b0 : decide (x47_3 < (x12_3.length : Int)) = true := decide_eq_true c37
                                            clear c37
                                            obtain ⟨bq38, hbq38⟩ : ∃ b_ : Bool, b_ = (rdOf false x12_3 x47_3) := ⟨_, rfl⟩
                                            replace H : (if bq38 = true then (impl_CanPayFrom.j4 k4 a0 x11_3 x12_3 x13_3 x14_3 x47_3 x16_4 a0 x47_3 true t202) else (if x47_3 < (x11_3.length : Int) then (impl_CanPayFrom.j4 k4 a0 x11_3 x12_3 x13_3 x14_3 x47_3 x16_4 a0 x47_3 (decide ((rd x11_3 x47_3) < x16_4)) t202) else (none))) = some (r1, r2) := by rw [← hbq38] at H; exact H
                                            have Nbq38 := Aside0.mk hbq38
                                            clear hbq38
                                            by_cases c39 : bq38 = true
                                            · subst c39
                                              have H1 : (impl_CanPayFrom.j4 k4 a0 x11_3 x12_3 x13_3 x14_3 x47_3 x16_4 a0 x47_3 true t202) = some (r1, r2) := by rw [if_pos rfl] at H; exact H
                                              clear H
                                              have H := H1
                                              clear H1
                                              have H' := Aside0.mk H
                                              clear H
                                              obtain ⟨Ao40, co40, eo40⟩ := Kd.R_slice HO_12.out
                                              subst eo40
                                              have p213 : 0 ≤ (x47_3 : Int) := of_decide_eq_true (by first | (with_reducible assumption) | assumption)
                                              have q213 : x47_3 < (x12_3.length : Int) := of_decide_eq_true (by first | (with_reducible assumption) | assumption)
                                              obtain ⟨ad213, e213, hx213_0⟩ := Kd.at_bool (Kd.R_reads' HO_12.out).2.2 x47_3 p213 q213
                                              (try rw [← Nbq38.out] at hx213_0)
                                              cases e213
                                              replace p213 := eq_true p213
                                              replace q213 := eq_true q213
                                              go_wp2
                                              go_meet
                                              case rel => exact ⟨_, (true), (by first | rfl | (simp; done) | (simp [*]; done)), H', ⟨by have := HK1.out; have := HK2.out; have := HK3.out; have := HK4.out; first | omega | exact Nat.le_refl _⟩, ⟨by (with_reducible repeat (first | apply Kd.R_alloc | apply Kd.R_drewN | apply Kd.R_drew)); exact HO_11.out⟩, ⟨by (with_reducible repeat (first | apply Kd.R_alloc | apply Kd.R_drewN | apply Kd.R_drew)); exact HO_12.out⟩, ⟨by (with_reducible repeat (first | apply Kd.R_alloc | apply Kd.R_drewN | apply Kd.R_drew)); exact HO_13.out⟩, ⟨by (with_reducible repeat (first | refine blk_drewN ?_ _ | refine blk_drew ?_ | refine blk_alloc ?_ _)); exact BK206.out⟩, ⟨by repeat (first | (with_reducible first | exact HB.out | apply below_alloc | apply pw_below_drewN | apply below_drew1 | refine below_set ?_ GE206.out) | exact HB.out)⟩⟩
                                            · replace c39 := Bool.eq_false_iff.mpr c39
                                              subst c39
                                              have H1 : (if x47_3 < (x11_3.length : Int) then (impl_CanPayFrom.j4 k4 a0 x11_3 x12_3 x13_3 x14_3 x47_3 x16_4 a0 x47_3 (decide ((rd x11_3 x47_3) < x16_4)) t202) else (none)) = some (r1, r2) := by rw [if_neg (show ¬ (false = true) by decide)] at H; exact H
                                              clear H
                                              have H := H1
                                              clear H1
                                              by_cases c41 : x47_3 < (x11_3.length : Int)
                                              · rw [if_pos c41] at H
                                                have c41b0 : decide (x47_3 < (x11_3.length : Int)) = true := decide_eq_true c41
                                                clear c41
                                                have H' := Aside0.mk H
                                                clear H
                                                obtain ⟨Ao42, co42, eo42⟩ := Kd.R_slice HO_12.out
                                                subst eo42
                                                have p213 : 0 ≤ (x47_3 : Int) := of_decide_eq_true (by first | (with_reducible assumption) | assumption)
                                                have q213 : x47_3 < (x12_3.length : Int) := of_decide_eq_true (by first | (with_reducible assumption) | assumption)
                                                obtain ⟨ad213, e213, hx213_0⟩ := Kd.at_bool (Kd.R_reads' HO_12.out).2.2 x47_3 p213 q213
                                                (try rw [← Nbq38.out] at hx213_0)
                                                cases e213
                                                replace p213 := eq_true p213
                                                replace q213 := eq_true q213
                                                obtain ⟨Ao43, co43, eo43⟩ := Kd.R_slice HO_11.out
                                                subst eo43
                                                have p214 : 0 ≤ (x47_3 : Int) := of_decide_eq_true (by first | (with_reducible assumption) | assumption)
                                                have q214 : x47_3 < (x11_3.length : Int) := of_decide_eq_true (by first | (with_reducible assumption) | assumption)
                                                obtain ⟨ad214, e214, hx214_0⟩ := Kd.at_int (Kd.R_reads' HO_11.out).2.2 x47_3 p214 q214
                                                cases e214
                                                replace p214 := eq_true p214
                                                replace q214 := eq_true q214
                                                go_wp2
                                                go_meet
                                                case rel => exact ⟨_, (decide ((rd x11_3 x47_3) < x16_4)), (by first | rfl | (simp; done) | (simp [*]; done)), H', ⟨by have := HK1.out; have := HK2.out; have := HK3.out; have := HK4.out; first | omega | exact Nat.le_refl _⟩, ⟨by (with_reducible repeat (first | apply Kd.R_alloc | apply Kd.R_drewN | apply Kd.R_drew)); exact HO_11.out⟩, ⟨by (with_reducible repeat (first | apply Kd.R_alloc | apply Kd.R_drewN | apply Kd.R_drew)); exact HO_12.out⟩, ⟨by (with_reducible repeat (first | apply Kd.R_alloc | apply Kd.R_drewN | apply Kd.R_drew)); exact HO_13.out⟩, ⟨by (with_reducible repeat (first | refine blk_drewN ?_ _ | refine blk_drew ?_ | refine blk_alloc ?_ _)); exact BK206.out⟩, ⟨by repeat (first | (with_reducible first | exact HB.out | apply below_alloc | apply pw_below_drewN | apply below_drew1 | refine below_set ?_ GE206.out) | exact HB.out)⟩⟩
                                              · rw [if_neg c41] at H
                                                exact absurd H (by simp)
                                          · rw [if_neg c37] at H
                                            exact absurd H (by simp)
                                        · rw [if_neg c36] at H
                                          exact absurd H (by simp)
                                      case rest =>
                                        clear HC35
                                        try clear c1
                                        try clear c2
                                        try clear p2
                                        try clear q2
                                        try clear hx2
                                        try clear c3
                                        try clear p3
                                        try clear q3
                                        try clear hx3
                                        try clear c4
                                        try clear c5
                                        try clear c6
                                        try clear c6b0
                                        try clear c6b1
                                        try clear p6
                                        try clear c7
                                        try clear c8
                                        try clear c8b0
                                        try clear c9
                                        try clear c9b0
                                        try clear c10
                                        try clear c10b0
                                        try clear c12
                                        try clear c16
                                        try clear c16b0
                                        try clear c16b1
                                        try clear c17
                                        try clear c17b0
                                        try clear c17b1
                                        try clear p20
                                        try clear q20
                                        try clear hx20
                                        try clear p21
                                        try clear q21
                                        try clear hx21
                                        try clear c26
                                        try clear c27
                                        try clear c27b0
                                        try clear c28
                                        try clear c28b0
                                        try clear c29
                                        try clear c29b0
                                        try clear p30
                                        try clear q30
                                        try clear c32
                                        try clear c32b0
                                        try clear c33
                                        try clear c33b0
                                        try clear p34
                                        try clear q34
                                        try clear hx34
                                        try clear c36
                                        try clear c36b0
                                        try clear c37
                                        try clear c37b0
                                        try clear q38
                                        try clear c39
                                        try clear c41
                                        try clear c41b0
                                        try clear c43
                                        try clear hx200_0
                                        try clear hx213_0
                                        try clear hx214_0
                                        try clear p2
                                        try clear p20
                                        try clear p200
                                        try clear p213
                                        try clear p214
                                        try clear p3
                                        try clear p30
                                        try clear p34
                                        try clear p6
                                        try clear q2
                                        try clear q20
                                        try clear q200
                                        try clear q213
                                        try clear q214
                                        try clear q3
                                        try clear q30
                                        try clear q34
                                        obtain ⟨kq, x71_34, rfl, HA, HJ34, HO_11, HO_12, HO_13, BK206, HB⟩ := hcut
                                        cases kq with
                                        | zero => exact absurd HA.out (by simp [impl_CanPayFrom.j4])
                                        | succ kj34 =>
                                          have H := HA.out
                                          clear HA
                                          simp only [impl_CanPayFrom.j4] at H
                                          by_cases c44 : x71_34 = true
                                          · subst c44
                                            have H1 : (impl_CanPayFrom.l2 kj34 a0 x11_3 x12_3 x13_3 x14_3 a0 (wrap64 (x47_3 + 1)) t202) = some (r1, r2) := by rw [if_pos rfl] at H; exact H
                                            clear H
                                            have H := H1
                                            clear H1
                                            have H' := Aside0.mk H
                                            clear H
                                            go_wp2
                                            go_roundg kj34
                                            case measure => have := HK1.out; have := HK2.out; have := HK3.out; have := HK4.out; have := HJ34.out; omega
                                            case rel => exact ⟨(x11_3), (x12_3), (x13_3), (x14_3), (wrap64 (x47_3 + 1)), (by first | rfl | (simp; done) | (simp [*]; done)), (by first | rfl | (simp; done) | (simp [*]; done)), H', ⟨by have := HK1.out; have := HK2.out; have := HK3.out; have := HK4.out; have := HJ34.out; omega⟩, ⟨by (with_reducible repeat (first | apply Kd.R_alloc | apply Kd.R_drewN | apply Kd.R_drew)); exact HO_11.out⟩, ⟨by (with_reducible repeat (first | apply Kd.R_alloc | apply Kd.R_drewN | apply Kd.R_drew)); exact HO_12.out⟩, ⟨by (with_reducible repeat (first | apply Kd.R_alloc | apply Kd.R_drewN | apply Kd.R_drew)); exact HO_13.out⟩, ⟨by (with_reducible repeat (first | refine blk_drewN ?_ _ | refine blk_drew ?_ | refine blk_alloc ?_ _)); exact BK206.out⟩, ⟨by repeat (first | (with_reducible first | exact HB.out | apply below_alloc | apply pw_below_drewN | apply below_drew1 | refine below_set ?_ GE206.out) | exact HB.out)⟩⟩
                                          · replace c44 := Bool.eq_false_iff.mpr c44
                                            subst c44
                                            have H1 : (if 0 ≤ x47_3 then (if x47_3 < (x12_3.length : Int) then (if x13_3.length < 17592186044416 then (if x47_3 < (x11_3.length : Int) then (impl_CanPayFrom.l4 kj34 a0 (x11_3.set (x47_3 : Int).toNat (wrap64 ((rd x11_3 x47_3) - x16_4))) (x12_3.set (x47_3 : Int).toNat true) (x13_3 ++ [x47_3]) true x47_3 a0 x47_3 a0 0 t202) else (none)) else (none)) else (none)) else (none)) = some (r1, r2) := by rw [if_neg (show ¬ (false = true) by decide)] at H; exact H
                                            clear H
                                            have H := H1
                                            clear H1
                                            by_cases c45 : 0 ≤ x47_3
                                            · rw [if_pos c45] at H
                                              have c45b0 : decide (0 ≤ x47_3) = true := decide_eq_true c45
                                              clear c45
                                              by_cases c46 : x47_3 < (x12_3.length : Int)
                                              · rw [if_pos c46] at H
                                                have c46b0 : decide (x47_3 < (x12_3.length : Int)) = true := decide_eq_true c46
                                                clear c46
                                                obtain ⟨y215, hy215⟩ : ∃ y_ : List Bool, y_ = (x12_3.set (x47_3 : Int).toNat true) := ⟨_, rfl⟩
                                                replace H : (if x13_3.length < 17592186044416 then (if x47_3 < (x11_3.length : Int) then (impl_CanPayFrom.l4 kj34 a0 (x11_3.set (x47_3 : Int).toNat (wrap64 ((rd x11_3 x47_3) - x16_4))) y215 (x13_3 ++ [x47_3]) true x47_3 a0 x47_3 a0 0 t202) else (none)) else (none)) = some (r1, r2) := by first | (rw [hy215]; with_reducible exact H) | (have H2_ := (Option.bind_some _ _).symm.trans H; rw [hy215]; with_reducible exact H2_) | (have H2_ := (Option.bind_some _ _).symm.trans H; with_reducible exact H2_) | with_reducible exact H | (rw [hy215]; exact H) | exact H
                                                have Ny215 := Aside0.mk hy215
                                                clear hy215
                                                by_cases c48 : x13_3.length < 17592186044416
                                                · rw [if_pos c48] at H
                                                  have LMc48 := Aside0.mk c48
                                                  clear c48
                                                  obtain ⟨y216, hy216⟩ : ∃ y_ : List Int, y_ = (x13_3 ++ [x47_3]) := ⟨_, rfl⟩
                                                  replace H : (if x47_3 < (x11_3.length : Int) then (impl_CanPayFrom.l4 kj34 a0 (x11_3.set (x47_3 : Int).toNat (wrap64 ((rd x11_3 x47_3) - x16_4))) y215 y216 true x47_3 a0 x47_3 a0 0 t202) else (none)) = some (r1, r2) := by first | (rw [hy216]; with_reducible exact H) | (have H2_ := (Option.bind_some _ _).symm.trans H; rw [hy216]; with_reducible exact H2_) | (have H2_ := (Option.bind_some _ _).symm.trans H; with_reducible exact H2_) | with_reducible exact H | (rw [hy216]; exact H) | exact H
                                                  have Ny216 := Aside0.mk hy216
                                                  clear hy216
                                                  by_cases c49 : x47_3 < (x11_3.length : Int)
                                                  · rw [if_pos c49] at H
                                                    have c49b0 : decide (x47_3 < (x11_3.length : Int)) = true := decide_eq_true c49
                                                    clear c49
                                                    obtain ⟨y220, hy220⟩ : ∃ y_ : List Int, y_ = (x11_3.set (x47_3 : Int).toNat (wrap64 ((rd x11_3 x47_3) - x16_4))) := ⟨_, rfl⟩
                                                    replace H : (impl_CanPayFrom.l4 kj34 a0 y220 y215 y216 true x47_3 a0 x47_3 a0 0 t202) = some (r1, r2) := by first | (rw [hy220]; with_reducible exact H) | (have H2_ := (Option.bind_some _ _).symm.trans H; rw [hy220]; with_reducible exact H2_) | (have H2_ := (Option.bind_some _ _).symm.trans H; with_reducible exact H2_) | with_reducible exact H | (rw [hy220]; exact H) | exact H
                                                    have Ny220 := Aside0.mk hy220
                                                    clear hy220
                                                    have H' := Aside0.mk H
                                                    clear H
                                                    have p47 : 0 ≤ (x47_3 : Int) := of_decide_eq_true (by first | (with_reducible assumption) | assumption)
                                                    have q47 : (x47_3 : Int) < ((x12_3.length : Int) : Int) := of_decide_eq_true (by first | (with_reducible assumption) | assumption)
                                                    obtain ⟨go47, co47, eo47, gb47, gl47, cl47, HG47⟩ := Kd.R_form HO_12.out (by omega)
                                                    (first | cases eo47 | (injection eo47 with ea_ en_ ec_; (first | subst ea_ | (injection ea_ with ea_; subst ea_)); subst ec_; clear en_))
                                                    have GB47 := Aside0.mk gb47
                                                    have GG47 := Aside0.mk HG47
                                                    clear gb47 gl47 HG47
                                                    obtain ⟨hx47_0, hf47_0⟩ := Kd.R_celln false HO_12.out (x47_3 : Int) p47 q47
                                                    replace p47 := eq_true p47
                                                    replace q47 := eq_true q47
                                                    have HP51 := Kd.R_putg HO_12.out (x47_3 : Int) true
                                                    go_wp2_with (first | ((with_reducible refine gate_store (t := 4) (p := 74) rfl ?_); refine store_event (t := 4) (p := 74) (v := ?vo_w52) (w1 := (wc.setCell ⟨go47, (x47_3 : Int).toNat, none⟩ (.bool true))) ?hg ?ho ?hn ?hr ?_; (case ho => rfl); (case hg => rfl); (case hn => rfl); (case hr => first | (go_simp; done) | (go_simp; rfl)); intro w52 hw; have hg : wc.grownBy w52 (some go47) := (by rw [hw]; exact HP51.2); have hp_ : Kd.R Kd.bool 4 w52 w.heap.size (fun _ => True) (.slice (some ⟨go47, 0, none⟩) x12_3.length co47) y215 := (by rw [hw, Ny215.out]; exact HP51.1); clear HP51; have n0_ := Aside0.mk (Kd.R_over' (v := (.slice (some ⟨go47, 0, none⟩) x12_3.length co47)) (by (with_reducible repeat (first | apply Kd.R_alloc | apply Kd.R_drewN | apply Kd.R_drew)); exact HO_11.out) (Kd.R_typed HO_12.out) (by decide) hg); have n1_ := Aside0.mk (hp_); have n2_ := Aside0.mk (Kd.R_over' (v := (.slice (some ⟨go47, 0, none⟩) x12_3.length co47)) (by (with_reducible repeat (first | apply Kd.R_alloc | apply Kd.R_drewN | apply Kd.R_drew)); exact HO_13.out) (Kd.R_typed HO_12.out) (by decide) hg); have n3_ := Aside0.mk (blk_grown (g := gb206) (o := .cells (⟨Arr.arL .i64 t202⟩ : Array Value) 70 (0, 0)) (by (with_reducible repeat (first | refine blk_drewN ?_ _ | refine blk_drew ?_ | refine blk_alloc ?_ _)); exact BK206.out) hg (Kd.R_ne HO_12.out BK206.out (by decide))); have n4_ := Aside0.mk ((by rw [hw]; exact below_set (HB.out) GB47.out : Below w.heap.size w w52)); clear HO_11; clear HO_12; clear HO_13; clear BK206; clear HB; have HO_11 := n0_; have HO_12 := n1_; have HO_13 := n2_; have BK206 := n3_; have HB := n4_; clear n0_ n1_ n2_ n3_ n4_; clear hg hw hp_) | ((with_reducible refine gate_builtin (b := .append) (xs := #[.tmp 75, .tmp 77]) rfl ?_); at_builtin; refine Kd.R_append (Kd.int .i64) (w0 := w) w.heap.size rfl (.tmp 75) (.tmp 77) 34 2 (.int .i64 0) 8 rfl Try.underlying34 info2 rfl (by decide) (by omega) u13 x13_3 x47_3 [.int .i64 x47_3] (fun k_ => some k_ ≠ (v204 : Value).ownBlock) (fun _ => False) rfl rfl ?aP (fun _ hk => hk.elim) ?aF ?aO ?aB ?aS ?aL ?_; (case aP => exact rfl); (case aB => exact (by repeat (first | (with_reducible first | exact HB.out | apply below_alloc | apply pw_below_drewN | apply below_drew1 | refine below_set ?_ GE206.out) | exact HB.out))); (case aF => exact (fun k_ hk => Kd.fresh' (Kd.R_lt (by (with_reducible repeat (first | apply Kd.R_alloc | apply Kd.R_drewN | apply Kd.R_drew)); exact HO_11.out)) k_ hk)); (case aO => exact (by (with_reducible repeat (first | apply Kd.R_alloc | apply Kd.R_drewN | apply Kd.R_drew)); exact HO_13.out)); (case aS => exact (below_size (by repeat (first | (with_reducible first | exact HB.out | apply below_alloc | apply pw_below_drewN | apply below_drew1 | refine below_set ?_ GE206.out) | exact HB.out)))); (case aL => have := LMc48.out; omega); intro v217 w53 ho hb hg hat; rw [← Ny216.out] at ho; have n0_ := Aside0.mk (Kd.R_after (ok := (fun _ => True)) (by (with_reducible repeat (first | apply Kd.R_alloc | apply Kd.R_drewN | apply Kd.R_drew)); exact Kd.R_mono HO_11.out (fun _ hk => ⟨trivial, hk⟩)) hg hat); have n1_ := Aside0.mk (Kd.R_over' (by (with_reducible repeat (first | apply Kd.R_alloc | apply Kd.R_drewN | apply Kd.R_drew)); exact HO_12.out) (Kd.R_typed (by (with_reducible repeat (first | apply Kd.R_alloc | apply Kd.R_drewN | apply Kd.R_drew)); exact HO_13.out)) (by decide) hg); have n2_ := Aside0.mk (blk_grown (g := gb206) (o := .cells (⟨Arr.arL .i64 t202⟩ : Array Value) 70 (0, 0)) (by (with_reducible repeat (first | refine blk_drewN ?_ _ | refine blk_drew ?_ | refine blk_alloc ?_ _)); exact BK206.out) hg (Kd.R_ne HO_13.out BK206.out (by decide))); have n3_ := Aside0.mk (hb); have n4_ := Aside0.mk (ho); clear HO_11; clear HO_12; clear BK206; clear HB; clear HO_13; have HO_11 := n0_; have HO_12 := n1_; have BK206 := n2_; have HB := n3_; have HO218 := n4_; clear n0_ n1_ n2_ n3_ n4_; clear ho hb hg hat; obtain ⟨Ao54, co54, eo54⟩ := Kd.R_slice HO_11.out; subst eo54; have p219 : 0 ≤ (x47_3 : Int) := of_decide_eq_true (by first | (with_reducible assumption) | assumption); have q219 : x47_3 < (x11_3.length : Int) := of_decide_eq_true (by first | (with_reducible assumption) | assumption); obtain ⟨ad219, e219, hx219_0⟩ := Kd.at_int (Kd.R_reads' HO_11.out).2.2 x47_3 p219 q219; cases e219; replace p219 := eq_true p219; replace q219 := eq_true q219; have p50 : 0 ≤ (x47_3 : Int) := of_decide_eq_true (by first | (with_reducible assumption) | assumption); have q50 : (x47_3 : Int) < ((x11_3.length : Int) : Int) := of_decide_eq_true (by first | (with_reducible assumption) | assumption); obtain ⟨go50, co50, eo50, gb50, gl50, cl50, HG50⟩ := Kd.R_form HO_11.out (by omega); (first | cases eo50 | (injection eo50 with ea_ en_ ec_; (first | subst ea_ | (injection ea_ with ea_; subst ea_)); subst ec_; clear en_)); have GB50 := Aside0.mk gb50; have GG50 := Aside0.mk HG50; clear gb50 gl50 HG50; (first | simp only [add_plain] at hx219_0 | skip); obtain ⟨hx50_0, hf50_0⟩ := Kd.R_celln 0 HO_11.out (x47_3 : Int) p50 q50; replace p50 := eq_true p50; replace q50 := eq_true q50; have n_ := Aside0.mk (Kd.R_mono (ok' := (fun k_ => some k_ ≠ (v217 : Value).ownBlock)) HO_11.out (fun k_ hk => hk.2)); clear HO_11; have HO_11 := n_; clear n_; obtain ⟨hy55_, hz55_⟩ := Kd.R_celln 0 HO_11.out (x47_3 : Int) (of_decide_eq_true (by first | (with_reducible assumption) | assumption)) (of_decide_eq_true (by first | (with_reducible assumption) | assumption)); have HP55 := Kd.R_putg HO_11.out (x47_3 : Int) (wrap64 ((rd x11_3 x47_3) - x16_4))) | ((with_reducible refine gate_store (t := 2) (p := 85) rfl ?_); refine store_event (t := 2) (p := 85) (v := ?vo_w56) (w1 := (w53.setCell ⟨go50, (x47_3 : Int).toNat, none⟩ (.int .i64 (wrap64 ((rd x11_3 x47_3) - x16_4))))) ?hg ?ho ?hn ?hr ?_; (case ho => rfl); (case hg => rfl); (case hn => rfl); (case hr => first | (go_simp; done) | (go_simp; rfl)); intro w56 hw; have hg : w53.grownBy w56 (some go50) := (by rw [hw]; exact HP55.2); have hp_ : Kd.R (Kd.int .i64) 2 w56 w.heap.size (fun k_ => some k_ ≠ (v217 : Value).ownBlock) (.slice (some ⟨go50, 0, none⟩) x11_3.length co54) y220 := (by rw [hw, Ny220.out]; exact HP55.1); clear HP55; have n0_ := Aside0.mk (hp_); have n1_ := Aside0.mk (Kd.R_over' (v := (.slice (some ⟨go50, 0, none⟩) x11_3.length co54)) (by (with_reducible repeat (first | apply Kd.R_alloc | apply Kd.R_drewN | apply Kd.R_drew)); exact HO_12.out) (Kd.R_typed HO_11.out) (by decide) hg); have n2_ := Aside0.mk (blk_grown (g := gb206) (o := .cells (⟨Arr.arL .i64 t202⟩ : Array Value) 70 (0, 0)) (by (with_reducible repeat (first | refine blk_drewN ?_ _ | refine blk_drew ?_ | refine blk_alloc ?_ _)); exact BK206.out) hg (Kd.R_ne HO_11.out BK206.out (by decide))); have n3_ := Aside0.mk (Kd.R_after (v := (.slice (some ⟨go50, 0, none⟩) x11_3.length co54)) (v1 := (.slice (some ⟨go50, 0, none⟩) x11_3.length co54)) (ok := (fun _ => True)) (by (with_reducible repeat (first | apply Kd.R_alloc | apply Kd.R_drewN | apply Kd.R_drew)); exact Kd.R_mono HO218.out (fun _ hk => ⟨trivial, hk⟩)) hg (.inl rfl)); have n4_ := Aside0.mk ((by rw [hw]; exact below_set (HB.out) GB50.out : Below w.heap.size w w56)); clear HO_11; clear HO_12; clear BK206; clear HO218; clear HB; have HO_11 := n0_; have HO_12 := n1_; have BK206 := n2_; have HO218 := n3_; have HB := n4_; clear n0_ n1_ n2_ n3_ n4_; clear hg hw hp_))
                                                    go_loopg [87] kj34 (fun kq v87 w' => ∃ (x11_6 : List Int) (x87_6 : Int), v87 = .int .i64 x87_6 ∧ Aside0 (impl_CanPayFrom.l4 kq a0 x11_6 y215 y216 true x47_3 a0 x47_3 a0 x87_6 t202 = some (r1, r2)) ∧ Aside0 (kq ≤ kj34) ∧ Aside0 (Kd.R (Kd.int .i64) 2 w' w.heap.size (fun k_ => some k_ ≠ (v217 : Value).ownBlock) (.slice (some ⟨go50, 0, none⟩) x11_3.length co54) x11_6) ∧ Aside0 (Kd.R Kd.bool 4 w' w.heap.size (fun _ => True) (.slice (some ⟨go47, 0, none⟩) x12_3.length co47) y215) ∧ Aside0 (Kd.R (Kd.int .i64) 2 w' w.heap.size (fun k_ => some k_ ≠ ((.slice (some ⟨go50, 0, none⟩) x11_3.length co54) : Value).ownBlock) v217 y216) ∧ Aside0 (w'.heap[gb206]? = some (.cells (⟨Arr.arL .i64 t202⟩ : Array Value) 70 (0, 0))) ∧ Aside0 (Below w.heap.size w w'))
                                                    case atStart => exact ⟨(y220), (0), (by first | rfl | (simp; done) | (simp [*]; done)), H', ⟨Nat.le_refl _⟩, ⟨by (with_reducible repeat (first | apply Kd.R_alloc | apply Kd.R_drewN | apply Kd.R_drew)); exact HO_11.out⟩, ⟨by (with_reducible repeat (first | apply Kd.R_alloc | apply Kd.R_drewN | apply Kd.R_drew)); exact HO_12.out⟩, ⟨by (with_reducible repeat (first | apply Kd.R_alloc | apply Kd.R_drewN | apply Kd.R_drew)); exact Kd.R_mono HO218.out (fun _ hk => hk.2)⟩, ⟨by (with_reducible repeat (first | refine blk_drewN ?_ _ | refine blk_drew ?_ | refine blk_alloc ?_ _)); exact BK206.out⟩, ⟨by repeat (first | (with_reducible first | exact HB.out | apply below_alloc | apply pw_below_drewN | apply below_drew1 | refine below_set ?_ GE206.out) | exact HB.out)⟩⟩
                                                    case round =>
                                                      clear H'
                                                      try clear c1
                                                      try clear c2
                                                      try clear p2
                                                      try clear q2
                                                      try clear hx2
                                                      try clear c3
                                                      try clear p3
                                                      try clear q3
                                                      try clear hx3
                                                      try clear c4
                                                      try clear p4
                                                      try clear q4
                                                      try clear hx4
                                                      try clear hf4
                                                      try clear c5
                                                      try clear p5
                                                      try clear q5
                                                      try clear hx5
                                                      try clear hf5
                                                      try clear c6
                                                      try clear c6b0
                                                      try clear c6b1
                                                      try clear p6
                                                      try clear c7
                                                      try clear c8
                                                      try clear c8b0
                                                      try clear c9
                                                      try clear c9b0
                                                      try clear c10
                                                      try clear c10b0
                                                      try clear c12
                                                      try clear c16
                                                      try clear c16b0
                                                      try clear c16b1
                                                      try clear c17
                                                      try clear c17b0
                                                      try clear c17b1
                                                      try clear p20
                                                      try clear q20
                                                      try clear hx20
                                                      try clear p21
                                                      try clear q21
                                                      try clear hx21
                                                      try clear c26
                                                      try clear c27
                                                      try clear c27b0
                                                      try clear c28
                                                      try clear c28b0
                                                      try clear c29
                                                      try clear c29b0
                                                      try clear p30
                                                      try clear q30
                                                      try clear c32
                                                      try clear c32b0
                                                      try clear c33
                                                      try clear c33b0
                                                      try clear p34
                                                      try clear q34
                                                      try clear hx34
                                                      try clear c36
                                                      try clear c36b0
                                                      try clear c37
                                                      try clear c37b0
                                                      try clear q38
                                                      try clear c39
                                                      try clear c41
                                                      try clear c41b0
                                                      try clear c43
                                                      try clear c44
                                                      try clear c45
                                                      try clear c45b0
                                                      try clear c46
                                                      try clear c46b0
                                                      try clear p47
                                                      try clear q47
                                                      try clear hx47
                                                      try clear hf47
                                                      try clear c48
                                                      try clear c49
                                                      try clear c49b0
                                                      try clear p50
                                                      try clear q50
                                                      try clear hx50
                                                      try clear hf50
                                                      try clear hx200_0
                                                      try clear hx213_0
                                                      try clear hx214_0
                                                      try clear hx219_0
                                                      try clear hx47_0
                                                      try clear hx50_0
                                                      try clear p2
                                                      try clear p20
                                                      try clear p200
                                                      try clear p21
                                                      try clear p213
                                                      try clear p214
                                                      try clear p219
                                                      try clear p3
                                                      try clear p30
                                                      try clear p34
                                                      try clear p47
                                                      try clear p50
                                                      try clear p6
                                                      try clear q2
                                                      try clear q20
                                                      try clear q200
                                                      try clear q21
                                                      try clear q213
                                                      try clear q214
                                                      try clear q219
                                                      try clear q3
                                                      try clear q30
                                                      try clear q34
                                                      try clear q38
                                                      try clear q47
                                                      try clear q50
                                                      obtain ⟨x11_6, x87_6, rfl, HA, HK6, HO_11, HO_12, HO_13, BK206, HB⟩ := hrel
                                                      have hl11_6 := (Kd.R_reads' HO_11.out).1
                                                      rw [hl11_6] at HO_11
                                                      (try simp only [hl11_6])
                                                      (try simp only [hl11_6] at BK206)
                                                      (try simp only [hl11_6] at HO_12)
                                                      (try simp only [hl11_6] at HO_13)
                                                      have hl12_6 := (Kd.R_reads' HO_12.out).1
                                                      rw [hl12_6] at HO_12
                                                      (try simp only [hl12_6])
                                                      (try simp only [hl12_6] at BK206)
                                                      (try simp only [hl12_6] at HO_11)
                                                      (try simp only [hl12_6] at HO_13)
                                                      cases gk with
                                                      | zero => exact absurd HA.out (by simp [impl_CanPayFrom.l4])
                                                      | succ k6 =>
                                                        have H := HA.out
                                                        clear HA
                                                        simp only [impl_CanPayFrom.l4] at H
                                                        by_cases c57 : x87_6 < a0
                                                        · rw [if_pos c57] at H
                                                          have c57b0 : decide (x87_6 < a0) = true := decide_eq_true c57
                                                          clear c57
                                                          by_cases c58 : 0 ≤ x87_6
                                                          · rw [if_pos c58] at H
                                                            have c58b0 : decide (0 ≤ x87_6) = true := decide_eq_true c58
                                                            clear c58
                                                            by_cases c59 : x87_6 < (x11_6.length : Int)
                                                            · rw [if_pos c59] at H
                                                              have c59b0 : decide (x87_6 < (x11_6.length : Int)) = true := decide_eq_true c59
                                                              clear c59
                                                              by_cases c60 : 0 ≤ x47_3
                                                              · rw [if_pos c60] at H
                                                                have c60b0 : decide (0 ≤ x47_3) = true := decide_eq_true c60
                                                                clear c60
                                                                by_cases c61 : x47_3 < 16
                                                                · rw [if_pos c61] at H
                                                                  have c61b0 : decide (x47_3 < 16) = true := decide_eq_true c61
                                                                  clear c61
                                                                  by_cases c63 : x87_6 < 16
                                                                  · rw [if_pos c63] at H
                                                                    have c63b0 : decide (x87_6 < 16) = true := decide_eq_true c63
                                                                    clear c63
                                                                    obtain ⟨y222, hy222⟩ : ∃ y_ : List Int, y_ = (x11_6.set (x87_6 : Int).toNat (wrap64 ((rd x11_6 x87_6) + (Arr.vrd2 16 t202 x47_3 x87_6)))) := ⟨_, rfl⟩
                                                                    replace H : (if (wrap64 ((rd x11_6 x87_6) + (Arr.vrd2 16 t202 x47_3 x87_6))) > 100000000 then (some (([] : List Int), 3)) else (impl_CanPayFrom.l4 k6 a0 y222 y215 y216 true x47_3 a0 x47_3 a0 (wrap64 (x87_6 + 1)) t202)) = some (r1, r2) := by first | (rw [hy222]; with_reducible exact H) | (have H2_ := (Option.bind_some _ _).symm.trans H; rw [hy222]; with_reducible exact H2_) | (have H2_ := (Option.bind_some _ _).symm.trans H; with_reducible exact H2_) | with_reducible exact H | (rw [hy222]; exact H) | exact H
                                                                    have Ny222 := Aside0.mk hy222
                                                                    clear hy222
                                                                    by_cases c68 : (wrap64 ((rd x11_6 x87_6) + (Arr.vrd2 16 t202 x47_3 x87_6))) > 100000000
                                                                    · rw [if_pos c68] at H
                                                                      have c68b0 : decide (100000000 < (wrap64 ((rd x11_6 x87_6) + (Arr.vrd2 16 t202 x47_3 x87_6)))) = true := decide_eq_true c68
                                                                      clear c68
                                                                      simp only [Option.some.injEq, Prod.mk.injEq] at H
                                                                      obtain ⟨rfl, rfl⟩ := H
                                                                      try go_wp2
                                                                      have n0_ := Aside0.mk (Kd.R_drew HO_11.out)
                                                                      have n1_ := Aside0.mk (Kd.R_drew HO_12.out)
                                                                      have n2_ := Aside0.mk (Kd.R_drew HO_13.out)
                                                                      have n3_ := Aside0.mk (blk_drew BK206.out)
                                                                      have n4_ := Aside0.mk (below_drew1 HB.out)
                                                                      clear HO_11
                                                                      clear HO_12
                                                                      clear HO_13
                                                                      clear BK206
                                                                      clear HB
                                                                      have HO_11 := n0_
                                                                      have HO_12 := n1_
                                                                      have HO_13 := n2_
                                                                      have BK206 := n3_
                                                                      have HB := n4_
                                                                      clear n0_ n1_ n2_ n3_ n4_
                                                                      have p221 : 0 ≤ (x87_6 : Int) := of_decide_eq_true (by first | (with_reducible assumption) | assumption)
                                                                      have q221 : x87_6 < (x11_6.length : Int) := of_decide_eq_true (by first | (with_reducible assumption) | assumption)
                                                                      obtain ⟨ad221, e221, hx221_0⟩ := Kd.at_int (Kd.R_reads' HO_11.out).2.2 x87_6 p221 q221
                                                                      obtain rfl : (⟨go50, 0, none⟩ : Addr) = ad221 := (by injection e221)
                                                                      (first | simp only [add_plain] at hx221_0 | simp only [add_at] at hx221_0 | simp only [Addr.add, Nat.zero_add] at hx221_0 | skip)
                                                                      replace p221 := eq_true p221
                                                                      replace q221 := eq_true q221
                                                                      have p62 : 0 ≤ (x47_3 : Int) := of_decide_eq_true (by first | (with_reducible assumption) | assumption)
                                                                      have q62 : (x47_3 : Int) < 16 := of_decide_eq_true (by first | (with_reducible assumption) | assumption)
                                                                      replace p62 := eq_true p62
                                                                      replace q62 := eq_true q62
                                                                      have p64 : 0 ≤ (x87_6 : Int) := of_decide_eq_true (by first | (with_reducible assumption) | assumption)
                                                                      have q64 : (x87_6 : Int) < 16 := of_decide_eq_true (by first | (with_reducible assumption) | assumption)
                                                                      replace p64 := eq_true p64
                                                                      replace q64 := eq_true q64
                                                                      have p66 : 0 ≤ (x87_6 : Int) := of_decide_eq_true (by first | (with_reducible assumption) | assumption)
                                                                      have q66 : (x87_6 : Int) < ((x11_6.length : Int) : Int) := of_decide_eq_true (by first | (with_reducible assumption) | assumption)
                                                                      obtain ⟨hx66_0, hf66_0⟩ := Kd.R_celln 0 HO_11.out (x87_6 : Int) p66 q66
                                                                      replace p66 := eq_true p66
                                                                      replace q66 := eq_true q66
                                                                      have HP70 := Kd.R_putn HO_11.out (x87_6 : Int) (wrap64 ((rd x11_6 x87_6) + (Arr.vrd2 16 t202 x47_3 x87_6)))
                                                                      rw [← Ny222.out] at HP70
                                                                      have HQ70 := Aside0.mk HP70
                                                                      clear HP70
                                                                      refine start_ (n := 12) (S := fun w' => w'.cell? ⟨go50, (x87_6).toNat, none⟩ = some (.int .i64 (rd x11_6 x87_6)) ∧ w'.cell? ⟨gb206, x47_3.toNat * 16 + x87_6.toNat, none⟩ = some (.int .i64 (Arr.vrd2 16 t202 x47_3 x87_6))) (ds := [11]) #[false, false, false, false, false, false, false, false, false, false, false, false] (by kernel_rfl) rfl rfl ⟨hx221_0, (Arr.cellN (off := 0) (l := (Arr.arL .i64 t202)) (BK206.out) rfl (x47_3.toNat * 16 + x87_6.toNat) (x47_3.toNat * 16 + x87_6.toNat) (by omega) (by have a0_ := of_eq_true p62; have b0_ := of_eq_true q62; have a1_ := of_eq_true p64; have b1_ := of_eq_true q64; omega))⟩ (fun hHeld => ?_); refine with_tabW impl_CanPayFrom.tab34 impl_CanPayFrom.bits34 (fun HT_ HW_ => ?_)
                                                                      generalize wr.drew = w69 at HO_11 HO_12 HO_13 BK206 HB HQ70 hf66_0 hx221_0 hx66_0 hHeld ⊢
                                                                      refine pure_ (i := 0) (N := some 90) (v := ?_) (a' := ?_) #[true, false, false, false, false, false, false, false, false, false, false, false] rfl rfl (any_of HT_.out (by kernel_rfl)) (fun _ _ _ h => h) (Or.inl ⟨by rfl, ?_⟩) ?_ ?_
                                                                      rotate_left
                                                                      · intro w'
                                                                        go_simp
                                                                        with_reducible rfl
                                                                      rotate_left
                                                                      · simp only [Act.put, List.setIfInBounds_toArray, List.set_cons_zero, List.set_cons_succ, i64_w, i32_w]
                                                                        rfl
                                                                      refine pure_ (i := 1) (N := some 91) (v := ?_) (a' := ?_) #[true, true, false, false, false, false, false, false, false, false, false, false] rfl rfl (any_of HT_.out (by kernel_rfl)) (fun _ _ _ h => h) (Or.inl ⟨by rfl, ?_⟩) ?_ ?_
                                                                      rotate_left
                                                                      · intro w'
                                                                        go_simp
                                                                        with_reducible rfl
                                                                      rotate_left
                                                                      · simp only [Act.put, List.setIfInBounds_toArray, List.set_cons_zero, List.set_cons_succ, i64_w, i32_w]
                                                                        rfl
                                                                      refine pure_ (i := 2) (N := some 92) (v := ?_) (a' := ?_) #[true, true, true, false, false, false, false, false, false, false, false, false] rfl rfl (any_of HT_.out (by kernel_rfl)) (fun _ _ _ h => h) (Or.inl ⟨by rfl, ?_⟩) ?_ ?_
                                                                      rotate_left
                                                                      · intro w'
                                                                        go_simp
                                                                        with_reducible rfl
                                                                      rotate_left
                                                                      · simp only [Act.put, List.setIfInBounds_toArray, List.set_cons_zero, List.set_cons_succ, i64_w, i32_w]
                                                                        rfl
                                                                      refine pure_ (i := 4) (N := some 94) (v := ?_) (a' := ?_) #[true, true, true, false, true, false, false, false, false, false, false, false] rfl rfl (any_of HT_.out (by kernel_rfl)) (fun _ _ _ h => h) (Or.inl ⟨by rfl, ?_⟩) ?_ ?_
                                                                      rotate_left
                                                                      · intro w'
                                                                        go_simp
                                                                        with_reducible rfl
                                                                      rotate_left
                                                                      · simp only [Act.put, List.setIfInBounds_toArray, List.set_cons_zero, List.set_cons_succ, i64_w, i32_w]
                                                                        rfl
                                                                      refine pure_ (i := 5) (N := some 95) (v := ?_) (a' := ?_) #[true, true, true, false, true, true, false, false, false, false, false, false] rfl rfl (any_of HT_.out (by kernel_rfl)) (fun _ _ _ h => h) (Or.inl ⟨by rfl, ?_⟩) ?_ ?_
                                                                      rotate_left
                                                                      · intro w'
                                                                        go_simp
                                                                        with_reducible rfl
                                                                      rotate_left
                                                                      · simp only [Act.put, List.setIfInBounds_toArray, List.set_cons_zero, List.set_cons_succ, i64_w, i32_w]
                                                                        rfl
                                                                      refine pure_ (i := 6) (N := some 96) (v := ?_) (a' := ?_) #[true, true, true, false, true, true, true, false, false, false, false, false] rfl rfl (any_of HT_.out (by kernel_rfl)) (fun _ _ _ h => h) (Or.inl ⟨by rfl, ?_⟩) ?_ ?_
                                                                      rotate_left
                                                                      · intro w'
                                                                        go_simp
                                                                        with_reducible rfl
                                                                      rotate_left
                                                                      · simp only [Act.put, List.setIfInBounds_toArray, List.set_cons_zero, List.set_cons_succ, i64_w, i32_w]
                                                                        rfl
                                                                      refine pure_ (i := 7) (N := some 97) (v := ?_) (a' := ?_) #[true, true, true, false, true, true, true, true, false, false, false, false] rfl rfl (any_of HT_.out (by kernel_rfl)) (fun _ _ _ h => h) (Or.inl ⟨by rfl, ?_⟩) ?_ ?_
                                                                      rotate_left
                                                                      · intro w'
                                                                        go_simp
                                                                        with_reducible rfl
                                                                      rotate_left
                                                                      · simp only [Act.put, List.setIfInBounds_toArray, List.set_cons_zero, List.set_cons_succ, i64_w, i32_w]
                                                                        rfl
                                                                      refine take_ (i := 3) (N := some 93) (v := ?_) (a' := ?_) #[true, true, true, true, true, true, true, true, false, false, false, false] rfl rfl (take_ofW HT_.out HW_.out (by kernel_rfl)) (fun _ _ _ h => h) (Or.inl ⟨by rfl, ?_⟩) hHeld ?_ ?_
                                                                      rotate_left
                                                                      · rintro w' ⟨s0, s1⟩
                                                                        go_simp
                                                                        with_reducible rfl
                                                                      rotate_left
                                                                      · simp only [Act.put, List.setIfInBounds_toArray, List.set_cons_zero, List.set_cons_succ, i64_w, i32_w]
                                                                        rfl
                                                                      refine take_ (i := 8) (N := some 98) (v := ?_) (a' := ?_) #[true, true, true, true, true, true, true, true, true, false, false, false] rfl rfl (take_ofW HT_.out HW_.out (by kernel_rfl)) (fun _ _ _ h => h) (Or.inl ⟨by rfl, ?_⟩) hHeld ?_ ?_
                                                                      rotate_left
                                                                      · rintro w' ⟨s0, s1⟩
                                                                        go_simp
                                                                        with_reducible rfl
                                                                      rotate_left
                                                                      · simp only [Act.put, List.setIfInBounds_toArray, List.set_cons_zero, List.set_cons_succ, i64_w, i32_w]
                                                                        rfl
                                                                      refine pure_ (i := 9) (N := some 99) (v := ?_) (a' := ?_) #[true, true, true, true, true, true, true, true, true, true, false, false] rfl rfl (any_of HT_.out (by kernel_rfl)) (fun _ _ _ h => h) (Or.inl ⟨by rfl, ?_⟩) ?_ ?_
                                                                      rotate_left
                                                                      · intro w'
                                                                        go_simp
                                                                        with_reducible rfl
                                                                      rotate_left
                                                                      · simp only [Act.put, List.setIfInBounds_toArray, List.set_cons_zero, List.set_cons_succ, i64_w, i32_w]
                                                                        rfl
                                                                      refine pure_ (i := 10) (N := some 100) (v := ?_) (a' := ?_) #[true, true, true, true, true, true, true, true, true, true, true, false] rfl rfl (any_of HT_.out (by kernel_rfl)) (fun _ _ _ h => h) (Or.inl ⟨by rfl, ?_⟩) ?_ ?_
                                                                      rotate_left
                                                                      · intro w'
                                                                        go_simp
                                                                        with_reducible rfl
                                                                      rotate_left
                                                                      · simp only [Act.put, List.setIfInBounds_toArray, List.set_cons_zero, List.set_cons_succ, i64_w, i32_w]
                                                                        rfl
                                                                      refine last_ (i := 11) (N := none) #[true, true, true, true, true, true, true, true, true, true, true, true] rfl rfl (one_of HT_.out (by kernel_rfl)) (by decide) (fun K hK => ?_)
                                                                      refine skip_ (w1 := ?_) (by rfl) rfl ?_ ?_
                                                                      rotate_left
                                                                      · go_simp
                                                                        rfl
                                                                      refine hK.out _ _ ?_
                                                                      clear hK K
                                                                      refine done_ (done_of HT_.out (by kernel_rfl)) ?_
                                                                      have p67 : 0 ≤ (x87_6 : Int) := of_decide_eq_true (by first | (with_reducible assumption) | assumption)
                                                                      have q67 : (x87_6 : Int) < ((x11_6.length : Int) : Int) := of_decide_eq_true (by first | (with_reducible assumption) | assumption)
                                                                      replace p67 := eq_true p67
                                                                      replace q67 := eq_true q67
                                                                      try go_wp2
                                                                      go_ret2
                                                                      exact ⟨_, by first | rfl | (simp [errW_none, errW_some] <;> rfl) | (simp [*, errW_none, errW_some] <;> rfl), by first | exact Kd.R_nil _ _ _ _ _ | exact Kd.N_nil _ _ _ _ _ | exact Kd.V_nil _ _ _ _ _ | exact Kd.Q_nil _ _ _ _ _ | exact Kd.S_nil _ _ _ _ _, by repeat (first | (with_reducible first | exact HB.out | apply below_alloc | apply pw_below_drewN | apply below_drew1 | refine below_set ?_ GB50.out | refine below_set ?_ GE206.out) | exact HB.out)⟩
                                                                    · rw [if_neg c68] at H
                                                                      have c68b0 : decide (100000000 < (wrap64 ((rd x11_6 x87_6) + (Arr.vrd2 16 t202 x47_3 x87_6)))) = false := decide_eq_false c68
                                                                      clear c68
                                                                      have H' := Aside0.mk H
                                                                      clear H
                                                                      try go_wp2
                                                                      have n0_ := Aside0.mk (Kd.R_drew HO_11.out)
                                                                      have n1_ := Aside0.mk (Kd.R_drew HO_12.out)
                                                                      have n2_ := Aside0.mk (Kd.R_drew HO_13.out)
                                                                      have n3_ := Aside0.mk (blk_drew BK206.out)
                                                                      have n4_ := Aside0.mk (below_drew1 HB.out)
                                                                      clear HO_11
                                                                      clear HO_12
                                                                      clear HO_13
                                                                      clear BK206
                                                                      clear HB
                                                                      have HO_11 := n0_
                                                                      have HO_12 := n1_
                                                                      have HO_13 := n2_
                                                                      have BK206 := n3_
                                                                      have HB := n4_
                                                                      clear n0_ n1_ n2_ n3_ n4_
                                                                      have p221 : 0 ≤ (x87_6 : Int) := of_decide_eq_true (by first | (with_reducible assumption) | assumption)
                                                                      have q221 : x87_6 < (x11_6.length : Int) := of_decide_eq_true (by first | (with_reducible assumption) | assumption)
                                                                      obtain ⟨ad221, e221, hx221_0⟩ := Kd.at_int (Kd.R_reads' HO_11.out).2.2 x87_6 p221 q221
                                                                      obtain rfl : (⟨go50, 0, none⟩ : Addr) = ad221 := (by injection e221)
                                                                      (first | simp only [add_plain] at hx221_0 | simp only [add_at] at hx221_0 | simp only [Addr.add, Nat.zero_add] at hx221_0 | skip)
                                                                      replace p221 := eq_true p221
                                                                      replace q221 := eq_true q221
                                                                      have p62 : 0 ≤ (x47_3 : Int) := of_decide_eq_true (by first | (with_reducible assumption) | assumption)
                                                                      have q62 : (x47_3 : Int) < 16 := of_decide_eq_true (by first | (with_reducible assumption) | assumption)
                                                                      replace p62 := eq_true p62
                                                                      replace q62 := eq_true q62
                                                                      have p64 : 0 ≤ (x87_6 : Int) := of_decide_eq_true (by first | (with_reducible assumption) | assumption)
                                                                      have q64 : (x87_6 : Int) < 16 := of_decide_eq_true (by first | (with_reducible assumption) | assumption)
                                                                      replace p64 := eq_true p64
                                                                      replace q64 := eq_true q64
                                                                      have p66 : 0 ≤ (x87_6 : Int) := of_decide_eq_true (by first | (with_reducible assumption) | assumption)
                                                                      have q66 : (x87_6 : Int) < ((x11_6.length : Int) : Int) := of_decide_eq_true (by first | (with_reducible assumption) | assumption)
                                                                      obtain ⟨hx66_0, hf66_0⟩ := Kd.R_celln 0 HO_11.out (x87_6 : Int) p66 q66
                                                                      replace p66 := eq_true p66
                                                                      replace q66 := eq_true q66
                                                                      have HP72 := Kd.R_putn HO_11.out (x87_6 : Int) (wrap64 ((rd x11_6 x87_6) + (Arr.vrd2 16 t202 x47_3 x87_6)))
                                                                      rw [← Ny222.out] at HP72
                                                                      have HQ72 := Aside0.mk HP72
                                                                      clear HP72
                                                                      refine start_ (n := 12) (S := fun w' => w'.cell? ⟨go50, (x87_6).toNat, none⟩ = some (.int .i64 (rd x11_6 x87_6)) ∧ w'.cell? ⟨gb206, x47_3.toNat * 16 + x87_6.toNat, none⟩ = some (.int .i64 (Arr.vrd2 16 t202 x47_3 x87_6))) (ds := [11]) #[false, false, false, false, false, false, false, false, false, false, false, false] (by kernel_rfl) rfl rfl ⟨hx221_0, (Arr.cellN (off := 0) (l := (Arr.arL .i64 t202)) (BK206.out) rfl (x47_3.toNat * 16 + x87_6.toNat) (x47_3.toNat * 16 + x87_6.toNat) (by omega) (by have a0_ := of_eq_true p62; have b0_ := of_eq_true q62; have a1_ := of_eq_true p64; have b1_ := of_eq_true q64; omega))⟩ (fun hHeld => ?_); refine with_tabW impl_CanPayFrom.tab34 impl_CanPayFrom.bits34 (fun HT_ HW_ => ?_)
                                                                      generalize wr.drew = w71 at HO_11 HO_12 HO_13 BK206 HB HQ72 hf66_0 hx221_0 hx66_0 hHeld ⊢
                                                                      refine pure_ (i := 0) (N := some 90) (v := ?_) (a' := ?_) #[true, false, false, false, false, false, false, false, false, false, false, false] rfl rfl (any_of HT_.out (by kernel_rfl)) (fun _ _ _ h => h) (Or.inl ⟨by rfl, ?_⟩) ?_ ?_
                                                                      rotate_left
                                                                      · intro w'
                                                                        go_simp
                                                                        with_reducible rfl
                                                                      rotate_left
                                                                      · simp only [Act.put, List.setIfInBounds_toArray, List.set_cons_zero, List.set_cons_succ, i64_w, i32_w]
                                                                        rfl
                                                                      refine pure_ (i := 1) (N := some 91) (v := ?_) (a' := ?_) #[true, true, false, false, false, false, false, false, false, false, false, false] rfl rfl (any_of HT_.out (by kernel_rfl)) (fun _ _ _ h => h) (Or.inl ⟨by rfl, ?_⟩) ?_ ?_
                                                                      rotate_left
                                                                      · intro w'
                                                                        go_simp
                                                                        with_reducible rfl
                                                                      rotate_left
                                                                      · simp only [Act.put, List.setIfInBounds_toArray, List.set_cons_zero, List.set_cons_succ, i64_w, i32_w]
                                                                        rfl
                                                                      refine pure_ (i := 2) (N := some 92) (v := ?_) (a' := ?_) #[true, true, true, false, false, false, false, false, false, false, false, false] rfl rfl (any_of HT_.out (by kernel_rfl)) (fun _ _ _ h => h) (Or.inl ⟨by rfl, ?_⟩) ?_ ?_
                                                                      rotate_left
                                                                      · intro w'
                                                                        go_simp
                                                                        with_reducible rfl
                                                                      rotate_left
                                                                      · simp only [Act.put, List.setIfInBounds_toArray, List.set_cons_zero, List.set_cons_succ, i64_w, i32_w]
                                                                        rfl
                                                                      refine pure_ (i := 4) (N := some 94) (v := ?_) (a' := ?_) #[true, true, true, false, true, false, false, false, false, false, false, false] rfl rfl (any_of HT_.out (by kernel_rfl)) (fun _ _ _ h => h) (Or.inl ⟨by rfl, ?_⟩) ?_ ?_
                                                                      rotate_left
                                                                      · intro w'
                                                                        go_simp
                                                                        with_reducible rfl
                                                                      rotate_left
                                                                      · simp only [Act.put, List.setIfInBounds_toArray, List.set_cons_zero, List.set_cons_succ, i64_w, i32_w]
                                                                        rfl
                                                                      refine pure_ (i := 5) (N := some 95) (v := ?_) (a' := ?_) #[true, true, true, false, true, true, false, false, false, false, false, false] rfl rfl (any_of HT_.out (by kernel_rfl)) (fun _ _ _ h => h) (Or.inl ⟨by rfl, ?_⟩) ?_ ?_
                                                                      rotate_left
                                                                      · intro w'
                                                                        go_simp
                                                                        with_reducible rfl
                                                                      rotate_left
                                                                      · simp only [Act.put, List.setIfInBounds_toArray, List.set_cons_zero, List.set_cons_succ, i64_w, i32_w]
                                                                        rfl
                                                                      refine pure_ (i := 6) (N := some 96) (v := ?_) (a' := ?_) #[true, true, true, false, true, true, true, false, false, false, false, false] rfl rfl (any_of HT_.out (by kernel_rfl)) (fun _ _ _ h => h) (Or.inl ⟨by rfl, ?_⟩) ?_ ?_
                                                                      rotate_left
                                                                      · intro w'
                                                                        go_simp
                                                                        with_reducible rfl
                                                                      rotate_left
                                                                      · simp only [Act.put, List.setIfInBounds_toArray, List.set_cons_zero, List.set_cons_succ, i64_w, i32_w]
                                                                        rfl
                                                                      refine pure_ (i := 7) (N := some 97) (v := ?_) (a' := ?_) #[true, true, true, false, true, true, true, true, false, false, false, false] rfl rfl (any_of HT_.out (by kernel_rfl)) (fun _ _ _ h => h) (Or.inl ⟨by rfl, ?_⟩) ?_ ?_
                                                                      rotate_left
                                                                      · intro w'
                                                                        go_simp
                                                                        with_reducible rfl
                                                                      rotate_left
                                                                      · simp only [Act.put, List.setIfInBounds_toArray, List.set_cons_zero, List.set_cons_succ, i64_w, i32_w]
                                                                        rfl
                                                                      refine take_ (i := 3) (N := some 93) (v := ?_) (a' := ?_) #[true, true, true, true, true, true, true, true, false, false, false, false] rfl rfl (take_ofW HT_.out HW_.out (by kernel_rfl)) (fun _ _ _ h => h) (Or.inl ⟨by rfl, ?_⟩) hHeld ?_ ?_
                                                                      rotate_left
                                                                      · rintro w' ⟨s0, s1⟩
                                                                        go_simp
                                                                        with_reducible rfl
                                                                      rotate_left
                                                                      · simp only [Act.put, List.setIfInBounds_toArray, List.set_cons_zero, List.set_cons_succ, i64_w, i32_w]
                                                                        rfl
                                                                      refine take_ (i := 8) (N := some 98) (v := ?_) (a' := ?_) #[true, true, true, true, true, true, true, true, true, false, false, false] rfl rfl (take_ofW HT_.out HW_.out (by kernel_rfl)) (fun _ _ _ h => h) (Or.inl ⟨by rfl, ?_⟩) hHeld ?_ ?_
                                                                      rotate_left
                                                                      · rintro w' ⟨s0, s1⟩
                                                                        go_simp
                                                                        with_reducible rfl
                                                                      rotate_left
                                                                      · simp only [Act.put, List.setIfInBounds_toArray, List.set_cons_zero, List.set_cons_succ, i64_w, i32_w]
                                                                        rfl
                                                                      refine pure_ (i := 9) (N := some 99) (v := ?_) (a' := ?_) #[true, true, true, true, true, true, true, true, true, true, false, false] rfl rfl (any_of HT_.out (by kernel_rfl)) (fun _ _ _ h => h) (Or.inl ⟨by rfl, ?_⟩) ?_ ?_
                                                                      rotate_left
                                                                      · intro w'
                                                                        go_simp
                                                                        with_reducible rfl
                                                                      rotate_left
                                                                      · simp only [Act.put, List.setIfInBounds_toArray, List.set_cons_zero, List.set_cons_succ, i64_w, i32_w]
                                                                        rfl
                                                                      refine pure_ (i := 10) (N := some 100) (v := ?_) (a' := ?_) #[true, true, true, true, true, true, true, true, true, true, true, false] rfl rfl (any_of HT_.out (by kernel_rfl)) (fun _ _ _ h => h) (Or.inl ⟨by rfl, ?_⟩) ?_ ?_
                                                                      rotate_left
                                                                      · intro w'
                                                                        go_simp
                                                                        with_reducible rfl
                                                                      rotate_left
                                                                      · simp only [Act.put, List.setIfInBounds_toArray, List.set_cons_zero, List.set_cons_succ, i64_w, i32_w]
                                                                        rfl
                                                                      refine last_ (i := 11) (N := none) #[true, true, true, true, true, true, true, true, true, true, true, true] rfl rfl (one_of HT_.out (by kernel_rfl)) (by decide) (fun K hK => ?_)
                                                                      refine skip_ (w1 := ?_) (by rfl) rfl ?_ ?_
                                                                      rotate_left
                                                                      · go_simp
                                                                        rfl
                                                                      refine hK.out _ _ ?_
                                                                      clear hK K
                                                                      refine done_ (done_of HT_.out (by kernel_rfl)) ?_
                                                                      have p67 : 0 ≤ (x87_6 : Int) := of_decide_eq_true (by first | (with_reducible assumption) | assumption)
                                                                      have q67 : (x87_6 : Int) < ((x11_6.length : Int) : Int) := of_decide_eq_true (by first | (with_reducible assumption) | assumption)
                                                                      replace p67 := eq_true p67
                                                                      replace q67 := eq_true q67
                                                                      try go_wp2
                                                                      (try simp only [← hl11_6, ← hl12_6])
                                                                      go_roundg k6
                                                                      case measure => have := HK1.out; have := HK2.out; have := HK3.out; have := HK4.out; have := HJ34.out; have := HK6.out; omega
                                                                      case rel => exact ⟨(y222), (wrap64 (x87_6 + 1)), (by first | rfl | (simp; done) | (simp [*]; done)), H', ⟨by have := HK1.out; have := HK2.out; have := HK3.out; have := HK4.out; have := HJ34.out; have := HK6.out; omega⟩, ⟨by (try simp only [hl11_6]); (try simp only [hl12_6]); (with_reducible repeat (first | apply Kd.R_alloc | apply Kd.R_drewN | apply Kd.R_drew)); exact HQ72.out⟩, ⟨by (try simp only [hl11_6]); (try simp only [hl12_6]); (with_reducible repeat (first | apply Kd.R_alloc | apply Kd.R_drewN | apply Kd.R_drew)); exact Kd.R_mono (Kd.R_far (p := ⟨go50, (x87_6 : Int).toNat, none⟩) (Arr.types_of HO_12.out HO_11.out (by decide)) (fun _ hk => hk.2) (.int .i64 (wrap64 ((rd x11_6 x87_6) + (Arr.vrd2 16 t202 x47_3 x87_6))))) (fun _ hk => trivial)⟩, ⟨by (try simp only [hl11_6]); (try simp only [hl12_6]); (with_reducible repeat (first | apply Kd.R_alloc | apply Kd.R_drewN | apply Kd.R_drew)); exact Kd.R_mono (Kd.R_far (p := ⟨go50, (x87_6 : Int).toNat, none⟩) (Kd.R_mono HO_13.out (fun k_ hk => (⟨hk, fun e_ => hk (by rw [e_]; rfl)⟩ : _ ∧ k_ ≠ go50))) (fun _ hk => hk.2) (.int .i64 (wrap64 ((rd x11_6 x87_6) + (Arr.vrd2 16 t202 x47_3 x87_6))))) (fun _ hk => hk.1)⟩, ⟨by (try simp only [hl11_6]); (try simp only [hl12_6]); (with_reducible repeat (first | refine blk_drewN ?_ _ | refine blk_drew ?_ | refine blk_alloc ?_ _)); refine blk_far ?_ (by have h_ := Kd.R_ne HO_11.out BK206.out (by decide); intro e_; exact h_ (by rw [e_]; rfl)) _; (with_reducible repeat (first | refine blk_drewN ?_ _ | refine blk_drew ?_ | refine blk_alloc ?_ _)); exact BK206.out⟩, ⟨by repeat (first | (with_reducible first | exact HB.out | apply below_alloc | apply pw_below_drewN | apply below_drew1 | refine below_set ?_ GB50.out | refine below_set ?_ GE206.out) | exact HB.out)⟩⟩
                                                                  · rw [if_neg c63] at H
                                                                    exact absurd H (by simp)
                                                                · rw [if_neg c61] at H
                                                                  exact absurd H (by simp)
                                                              · rw [if_neg c60] at H
                                                                exact absurd H (by simp)
                                                            · rw [if_neg c59] at H
                                                              exact absurd H (by simp)
                                                          · rw [if_neg c58] at H
                                                            exact absurd H (by simp)
                                                        · rw [if_neg c57] at H
                                                          have c57b0 : decide (x87_6 < a0) = false := decide_eq_false c57
                                                          clear c57
                                                          have H' := Aside0.mk H
                                                          clear H
                                                          go_wp2
                                                          (try simp only [← hl11_6, ← hl12_6])
                                                          go_roundg k6
                                                          case measure => have := HK1.out; have := HK2.out; have := HK3.out; have := HK4.out; have := HJ34.out; have := HK6.out; omega
                                                          case rel => exact ⟨(x11_6), (y215), (y216), (true), (wrap64 (x47_3 + 1)), (by first | rfl | (simp; done) | (simp [*]; done)), (by first | rfl | (simp; done) | (simp [*]; done)), H', ⟨by have := HK1.out; have := HK2.out; have := HK3.out; have := HK4.out; have := HJ34.out; have := HK6.out; omega⟩, ⟨by (try simp only [hl11_6]); (try simp only [hl12_6]); (with_reducible repeat (first | apply Kd.R_alloc | apply Kd.R_drewN | apply Kd.R_drew)); exact HO_11.out⟩, ⟨by (try simp only [hl11_6]); (try simp only [hl12_6]); (with_reducible repeat (first | apply Kd.R_alloc | apply Kd.R_drewN | apply Kd.R_drew)); exact HO_12.out⟩, ⟨by (try simp only [hl11_6]); (try simp only [hl12_6]); (with_reducible repeat (first | apply Kd.R_alloc | apply Kd.R_drewN | apply Kd.R_drew)); exact HO_13.out⟩, ⟨by (try simp only [hl11_6]); (try simp only [hl12_6]); (with_reducible repeat (first | refine blk_drewN ?_ _ | refine blk_drew ?_ | refine blk_alloc ?_ _)); exact BK206.out⟩, ⟨by repeat (first | (with_reducible first | exact HB.out | apply below_alloc | apply pw_below_drewN | apply below_drew1 | refine below_set ?_ GE206.out) | exact HB.out)⟩⟩
                                                  · rw [if_neg c49] at H
                                                    exact absurd H (by simp)
                                                · rw [if_neg c48] at H
                                                  exact absurd H (by simp)
                                              · rw [if_neg c46] at H
                                                exact absurd H (by simp)
                                            · rw [if_neg c45] at H
                                              exact absurd H (by simp)
                              · rw [if_neg c29] at H
                                exact absurd H (by simp)
                            · rw [if_neg c28] at H
                              exact absurd H (by simp)
                          · rw [if_neg c27] at H
                            have c27b0 : decide (x47_3 < a0) = false := decide_eq_false c27
                            clear c27
                            have H' := Aside0.mk H
                            clear H
                            go_wp2
                            go_roundg k3
                            case measure => have := HK1.out; have := HK2.out; have := HK3.out; omega
                            case rel => exact ⟨(x11_3), (x12_3), (x13_3), (x14_3), (by first | rfl | (simp; done) | (simp [*]; done)), H', ⟨by have := HK1.out; have := HK2.out; have := HK3.out; omega⟩, ⟨by (with_reducible repeat (first | apply Kd.R_alloc | apply Kd.R_drewN | apply Kd.R_drew)); exact HO_11.out⟩, ⟨by (with_reducible repeat (first | apply Kd.R_alloc | apply Kd.R_drewN | apply Kd.R_drew)); exact HO_12.out⟩, ⟨by (with_reducible repeat (first | apply Kd.R_alloc | apply Kd.R_drewN | apply Kd.R_drew)); exact HO_13.out⟩, ⟨by (with_reducible repeat (first | refine blk_drewN ?_ _ | refine blk_drew ?_ | refine blk_alloc ?_ _)); exact BK206.out⟩, ⟨by repeat (first | (with_reducible first | exact HB.out | apply below_alloc | apply pw_below_drewN | apply below_drew1 | refine below_set ?_ GE206.out) | exact HB.out)⟩⟩
                    · replace c26 := Bool.eq_false_iff.mpr c26
                      subst c26
                      have H1 : (some (x13_2, 0)) = some (r1, r2) := by rw [if_neg (show ¬ (false = true) by decide)] at H; exact H
                      clear H
                      have H := H1
                      clear H1
                      simp only [Option.some.injEq, Prod.mk.injEq] at H
                      obtain ⟨rfl, rfl⟩ := H
                      go_wp2
                      go_ret2
                      exact ⟨_, by first | rfl | (simp [errW_none, errW_some] <;> rfl) | (simp [*, errW_none, errW_some] <;> rfl), by (with_reducible repeat (first | apply Kd.R_alloc | apply Kd.R_drewN | apply Kd.R_drew)); exact Kd.R_mono HO_13.out (fun _ hk => trivial), by repeat (first | (with_reducible first | exact HB.out | apply below_alloc | apply pw_below_drewN | apply below_drew1 | refine below_set ?_ GE206.out) | exact HB.out)⟩
              · rw [if_neg c17] at H
                exact absurd H (by simp)
            · rw [if_neg c16] at H
              exact absurd H (by simp)
    · rw [if_neg c6] at H
      have c6b0 : ((l2.length : Int) == a0) = false := beq_eq_false_iff_ne.mpr c6
      have c6b1 : ((l2.length : Int) != a0) = true := bne_iff_ne.mpr c6
      simp only [Option.some.injEq, Prod.mk.injEq] at H
      obtain ⟨rfl, rfl⟩ := H
      go_enter Try.func43, Try.ntmps43
      go_wp2_with (first | ((with_reducible refine gate_callee (f := 61) rfl ?_); refine goesL_ (some 22) rfl rfl Try.func61 (by kernel_rfl) rfl #[.int .i64 a0, .slice A1 l1.length c1] rfl (by (try simp only [List.map_toArray, List.map_cons, List.map_nil]); first | done | (go_simp; done) | rfl | (simp only [List.length_drop, List.length_take]; rfl)) ?_; (with_reducible refine (impl_ValidDebts.calls k a0 _ _ l1 true _ ?side1 ?side2 A4.out).mono ?_); (case side1 => repeat (first | exact HR1.out | (with_reducible refine Kd.C_alloc ?_ _) | (with_reducible refine Kd.C_drewN ?_ _) | (with_reducible refine Kd.C_drew ?_))); (case side2 => exact HC1.out); rintro e w73 ⟨rfl, hb⟩; refine ⟨_, rfl, ?_⟩; have n0_ := Aside0.mk (below_step (by repeat (first | (with_reducible first | exact HB.out | apply below_alloc | apply pw_below_drewN | apply below_drew1) | exact HB.out)) hb); clear HB; have HB := n0_; clear n0_; (try clear hb); (try clear hb2); (try clear hk); (try clear hi)))
      go_ret2
      exact ⟨_, by first | rfl | (simp [errW_none, errW_some] <;> rfl) | (simp [*, errW_none, errW_some] <;> rfl), by first | exact Kd.R_nil _ _ _ _ _ | exact Kd.N_nil _ _ _ _ _ | exact Kd.V_nil _ _ _ _ _ | exact Kd.Q_nil _ _ _ _ _ | exact Kd.S_nil _ _ _ _ _, by repeat (first | (with_reducible first | exact HB.out | apply below_alloc | apply pw_below_drewN | apply below_drew1) | exact HB.out)⟩
  · replace c5 := Bool.eq_false_iff.mpr c5
    subst c5
    have H1 : (some (([] : List Int), 1)) = some (r1, r2) := by rw [if_neg (show ¬ (false = true) by decide)] at H; exact H
    clear H
    have H := H1
    clear H1
    simp only [Option.some.injEq, Prod.mk.injEq] at H
    obtain ⟨rfl, rfl⟩ := H
    go_enter Try.func43, Try.ntmps43
    go_wp2_with (first | ((with_reducible refine gate_callee (f := 61) rfl ?_); refine goesL_ (some 22) rfl rfl Try.func61 (by kernel_rfl) rfl #[.int .i64 a0, .slice A1 l1.length c1] rfl (by (try simp only [List.map_toArray, List.map_cons, List.map_nil]); first | done | (go_simp; done) | rfl | (simp only [List.length_drop, List.length_take]; rfl)) ?_; (with_reducible refine (impl_ValidDebts.calls k a0 _ _ l1 false _ ?side1 ?side2 A4.out).mono ?_); (case side1 => repeat (first | exact HR1.out | (with_reducible refine Kd.C_alloc ?_ _) | (with_reducible refine Kd.C_drewN ?_ _) | (with_reducible refine Kd.C_drew ?_))); (case side2 => exact HC1.out); rintro e w74 ⟨rfl, hb⟩; refine ⟨_, rfl, ?_⟩; have n0_ := Aside0.mk (below_step (by repeat (first | (with_reducible first | exact HB.out | apply below_alloc | apply pw_below_drewN | apply below_drew1) | exact HB.out)) hb); clear HB; have HB := n0_; clear n0_; (try clear hb); (try clear hb2); (try clear hk); (try clear hi)))
    go_ret2
    exact ⟨_, by first | rfl | (simp [errW_none, errW_some] <;> rfl) | (simp [*, errW_none, errW_some] <;> rfl), by first | exact Kd.R_nil _ _ _ _ _ | exact Kd.N_nil _ _ _ _ _ | exact Kd.V_nil _ _ _ _ _ | exact Kd.Q_nil _ _ _ _ _ | exact Kd.S_nil _ _ _ _ _, by repeat (first | (with_reducible first | exact HB.out | apply below_alloc | apply pw_below_drewN | apply below_drew1) | exact HB.out)⟩

end Go.Proofs.Ytofcgkcpkngocaa.MCanPayFrom
