-- by a program of this session, for this claim
import Derived.Test.YtofcgkcpkngocaaMCanPayFromx0
import Derived.Test.YtofcgkcpkngocaaMCanPayFromx3
import Derived.Test.YtofcgkcpkngocaaMCanPayFromx4
import Derived.Test.YtofcgkcpkngocaaMCanPayFromx5
namespace Go.Proofs.Ytofcgkcpkngocaa.MCanPayFrom
open Go.RowKit Go.Proofs.YtofcgkcpkngocaaW.PrintWords Go.Proofs.YtofcgkcpkngocaaW.PrintLast Go.Proofs.YtofcgkcpkngocaaW.PrintMore
attribute [local go_sem] max2_int min2_int max_two min_two max_three min_three max_four min_four   -- for this text's walks alone
set_option linter.unusedVariables false
set_option linter.unusedSimpArgs false

/-! ### spec_CanPayFrom: function 42 -/
mutual
def spec_CanPayFrom.l0 : Nat → Int → List (S65) → List Int → Int → Option (List Int × Int)
  | 0, _, _, _, _ => none
  | k + 1, x0, x1, x2, x8 => if x8 < (x2.length : Int) then (if 0 ≤ x8 then ((spec_l01Amount.f (rd x2 x8)).bind fun t154 => (if t154 = true then (spec_CanPayFrom.l0 k x0 x1 x2 (wrap64 (x8 + 1))) else (some ((([] : List Int)), 2)))) else (none)) else ((spec_l02Sums.f k x1).bind fun t158 => ((some (([] : List Int) : List Int)).bind fun y160 => (if y160.length + x2.length < 17592186044416 then (if 0 ≤ x0 then (if (x0 : Int).toNat ≤ 281474976710656 then (spec_CanPayFrom.l1 k x0 (y160 ++ x2) (List.replicate (x0 : Int).toNat false) (([] : List Int)) true t158) else (none)) else (none)) else (none))))
def spec_CanPayFrom.l1 : Nat → Int → List Int → List Bool → List Int → Bool → Vector Int 256 → Option (List Int × Int)
  | 0, _, _, _, _, _, _ => none
  | k + 1, x0, x10, x11, x12, x13, x160000 => if x13 = true then (spec_CanPayFrom.l2 k x0 x10 x11 x12 false 0 x160000) else (some (x12, 0))
def spec_CanPayFrom.l2 : Nat → Int → List Int → List Bool → List Int → Bool → Int → Vector Int 256 → Option (List Int × Int)
  | 0, _, _, _, _, _, _, _ => none
  | k + 1, x0, x10, x11, x12, x13, x14, x160000 => if x14 < x0 then (spec_CanPayFrom.l3 k x0 x10 x11 x12 x13 x14 0 0 x160000) else (spec_CanPayFrom.l1 k x0 x10 x11 x12 x13 x160000)
def spec_CanPayFrom.l3 : Nat → Int → List Int → List Bool → List Int → Bool → Int → Int → Int → Vector Int 256 → Option (List Int × Int)
  | 0, _, _, _, _, _, _, _, _, _ => none
  | k + 1, x0, x10, x11, x12, x13, x14, x15, x16, x160000 => if x16 < x0 then (if 0 ≤ x14 then (if x14 < 16 then (if 0 ≤ x16 then (if x16 < 16 then (spec_CanPayFrom.l3 k x0 x10 x11 x12 x13 x14 (wrap64 (x15 + (Arr.vrd2 16 x160000 x14 x16))) (wrap64 (x16 + 1)) x160000) else (none)) else (none)) else (none)) else (none)) else (if 0 ≤ x14 then (if x14 < (x11.length : Int) then (if rdOf false x11 x14 = true then (spec_CanPayFrom.j4 k x0 x10 x11 x12 x13 x14 x15 true x160000) else (if x14 < (x10.length : Int) then (spec_CanPayFrom.j4 k x0 x10 x11 x12 x13 x14 x15 (decide ((rd x10 x14) < x15)) x160000) else (none))) else (none)) else (none))
def spec_CanPayFrom.j4 : Nat → Int → List Int → List Bool → List Int → Bool → Int → Int → Bool → Vector Int 256 → Option (List Int × Int)
  | 0, _, _, _, _, _, _, _, _, _ => none
  | k + 1, x0, x10, x11, x12, x13, x14, x15, x80, x160000 => if x80 = true then (spec_CanPayFrom.l2 k x0 x10 x11 x12 x13 (wrap64 (x14 + 1)) x160000) else (if 0 ≤ x14 then (if x14 < (x11.length : Int) then (if x12.length < 17592186044416 then (if x14 < (x10.length : Int) then (spec_CanPayFrom.l4 k x0 (x10.set (x14 : Int).toNat (wrap64 ((rd x10 x14) - x15))) (x11.set (x14 : Int).toNat true) (x12 ++ [x14]) true x14 0 x160000) else (none)) else (none)) else (none)) else (none))
def spec_CanPayFrom.l4 : Nat → Int → List Int → List Bool → List Int → Bool → Int → Int → Vector Int 256 → Option (List Int × Int)
  | 0, _, _, _, _, _, _, _, _ => none
  | k + 1, x0, x10, x11, x12, x13, x14, x17, x160000 => if x17 < x0 then (if 0 ≤ x17 then (if x17 < (x10.length : Int) then (if 0 ≤ x14 then (if x14 < 16 then (if x17 < 16 then (if (wrap64 ((rd x10 x17) + (Arr.vrd2 16 x160000 x14 x17))) > 100000000 then (some ((([] : List Int)), 3)) else (spec_CanPayFrom.l4 k x0 (x10.set (x17 : Int).toNat (wrap64 ((rd x10 x17) + (Arr.vrd2 16 x160000 x14 x17)))) x11 x12 x13 x14 (wrap64 (x17 + 1)) x160000)) else (none)) else (none)) else (none)) else (none)) else (none)) else (spec_CanPayFrom.l2 k x0 x10 x11 x12 x13 (wrap64 (x14 + 1)) x160000)
end
def spec_CanPayFrom.f (k : Nat) (a0 : Int) (l1 : List (S65)) (l2 : List Int) : Option (List Int × Int) := (spec_l02Ok.f k a0 l1).bind fun t146 => (if t146 = true then (if (l2.length : Int) = a0 then (spec_CanPayFrom.l0 k a0 l1 l2 0) else (some ((([] : List Int)), 2))) else (some ((([] : List Int)), 1)))
theorem spec_CanPayFrom.mono_l : ∀ k, (∀ y0 y1 y2 y3, LeO (spec_CanPayFrom.l0 k y0 y1 y2 y3) (spec_CanPayFrom.l0 (k + 1) y0 y1 y2 y3)) ∧ (∀ y0 y1 y2 y3 y4 y5, LeO (spec_CanPayFrom.l1 k y0 y1 y2 y3 y4 y5) (spec_CanPayFrom.l1 (k + 1) y0 y1 y2 y3 y4 y5)) ∧ (∀ y0 y1 y2 y3 y4 y5 y6, LeO (spec_CanPayFrom.l2 k y0 y1 y2 y3 y4 y5 y6) (spec_CanPayFrom.l2 (k + 1) y0 y1 y2 y3 y4 y5 y6)) ∧ (∀ y0 y1 y2 y3 y4 y5 y6 y7 y8, LeO (spec_CanPayFrom.l3 k y0 y1 y2 y3 y4 y5 y6 y7 y8) (spec_CanPayFrom.l3 (k + 1) y0 y1 y2 y3 y4 y5 y6 y7 y8)) ∧ (∀ y0 y1 y2 y3 y4 y5 y6 y7 y8, LeO (spec_CanPayFrom.j4 k y0 y1 y2 y3 y4 y5 y6 y7 y8) (spec_CanPayFrom.j4 (k + 1) y0 y1 y2 y3 y4 y5 y6 y7 y8)) ∧ (∀ y0 y1 y2 y3 y4 y5 y6 y7, LeO (spec_CanPayFrom.l4 k y0 y1 y2 y3 y4 y5 y6 y7) (spec_CanPayFrom.l4 (k + 1) y0 y1 y2 y3 y4 y5 y6 y7))
  | 0 => ⟨fun _ _ _ _ r h => by simp [spec_CanPayFrom.l0] at h, fun _ _ _ _ _ _ r h => by simp [spec_CanPayFrom.l1] at h, fun _ _ _ _ _ _ _ r h => by simp [spec_CanPayFrom.l2] at h, fun _ _ _ _ _ _ _ _ _ r h => by simp [spec_CanPayFrom.l3] at h, fun _ _ _ _ _ _ _ _ _ r h => by simp [spec_CanPayFrom.j4] at h, fun _ _ _ _ _ _ _ _ r h => by simp [spec_CanPayFrom.l4] at h⟩
  | k + 1 => by
    obtain ⟨ih0, ih1, ih2, ih3, ih4, ih5⟩ := spec_CanPayFrom.mono_l k
    refine ⟨?_, ?_, ?_, ?_, ?_, ?_⟩
    · intro y0 y1 y2 y3
      unfold spec_CanPayFrom.l0
      repeat' first
      | (with_reducible exact ih0 _ _ _ _)
      | (with_reducible exact ih1 _ _ _ _ _ _)
      | (with_reducible exact ih2 _ _ _ _ _ _ _)
      | (with_reducible exact ih3 _ _ _ _ _ _ _ _ _)
      | (with_reducible exact ih4 _ _ _ _ _ _ _ _ _)
      | (with_reducible exact ih5 _ _ _ _ _ _ _ _)
      | (with_reducible exact spec_l02Ok.mono _ _ _)
      | (with_reducible exact spec_l02Sums.mono _ _)
      | (with_reducible exact LeO.refl _)
      | (with_reducible exact LeO.none _)
      | (with_reducible refine LeO.ite ?_ ?_)
      | (with_reducible refine LeO.bind ?_ (fun _ => ?_))
      | exact ih0 _ _ _ _
      | exact ih1 _ _ _ _ _ _
      | exact ih2 _ _ _ _ _ _ _
      | exact ih3 _ _ _ _ _ _ _ _ _
      | exact ih4 _ _ _ _ _ _ _ _ _
      | exact ih5 _ _ _ _ _ _ _ _
      | exact spec_l02Ok.mono _ _ _
      | exact spec_l02Sums.mono _ _
      | exact LeO.none _
      | refine LeO.ite ?_ ?_
      | refine LeO.bind ?_ (fun _ => ?_)
    · intro y0 y1 y2 y3 y4 y5
      unfold spec_CanPayFrom.l1
      repeat' first
      | (with_reducible exact ih0 _ _ _ _)
      | (with_reducible exact ih1 _ _ _ _ _ _)
      | (with_reducible exact ih2 _ _ _ _ _ _ _)
      | (with_reducible exact ih3 _ _ _ _ _ _ _ _ _)
      | (with_reducible exact ih4 _ _ _ _ _ _ _ _ _)
      | (with_reducible exact ih5 _ _ _ _ _ _ _ _)
      | (with_reducible exact spec_l02Ok.mono _ _ _)
      | (with_reducible exact spec_l02Sums.mono _ _)
      | (with_reducible exact LeO.refl _)
      | (with_reducible exact LeO.none _)
      | (with_reducible refine LeO.ite ?_ ?_)
      | (with_reducible refine LeO.bind ?_ (fun _ => ?_))
      | exact ih0 _ _ _ _
      | exact ih1 _ _ _ _ _ _
      | exact ih2 _ _ _ _ _ _ _
      | exact ih3 _ _ _ _ _ _ _ _ _
      | exact ih4 _ _ _ _ _ _ _ _ _
      | exact ih5 _ _ _ _ _ _ _ _
      | exact spec_l02Ok.mono _ _ _
      | exact spec_l02Sums.mono _ _
      | exact LeO.none _
      | refine LeO.ite ?_ ?_
      | refine LeO.bind ?_ (fun _ => ?_)
    · intro y0 y1 y2 y3 y4 y5 y6
      unfold spec_CanPayFrom.l2
      repeat' first
      | (with_reducible exact ih0 _ _ _ _)
      | (with_reducible exact ih1 _ _ _ _ _ _)
      | (with_reducible exact ih2 _ _ _ _ _ _ _)
      | (with_reducible exact ih3 _ _ _ _ _ _ _ _ _)
      | (with_reducible exact ih4 _ _ _ _ _ _ _ _ _)
      | (with_reducible exact ih5 _ _ _ _ _ _ _ _)
      | (with_reducible exact spec_l02Ok.mono _ _ _)
      | (with_reducible exact spec_l02Sums.mono _ _)
      | (with_reducible exact LeO.refl _)
      | (with_reducible exact LeO.none _)
      | (with_reducible refine LeO.ite ?_ ?_)
      | (with_reducible refine LeO.bind ?_ (fun _ => ?_))
      | exact ih0 _ _ _ _
      | exact ih1 _ _ _ _ _ _
      | exact ih2 _ _ _ _ _ _ _
      | exact ih3 _ _ _ _ _ _ _ _ _
      | exact ih4 _ _ _ _ _ _ _ _ _
      | exact ih5 _ _ _ _ _ _ _ _
      | exact spec_l02Ok.mono _ _ _
      | exact spec_l02Sums.mono _ _
      | exact LeO.none _
      | refine LeO.ite ?_ ?_
      | refine LeO.bind ?_ (fun _ => ?_)
    · intro y0 y1 y2 y3 y4 y5 y6 y7 y8
      unfold spec_CanPayFrom.l3
      repeat' first
      | (with_reducible exact ih0 _ _ _ _)
      | (with_reducible exact ih1 _ _ _ _ _ _)
      | (with_reducible exact ih2 _ _ _ _ _ _ _)
      | (with_reducible exact ih3 _ _ _ _ _ _ _ _ _)
      | (with_reducible exact ih4 _ _ _ _ _ _ _ _ _)
      | (with_reducible exact ih5 _ _ _ _ _ _ _ _)
      | (with_reducible exact spec_l02Ok.mono _ _ _)
      | (with_reducible exact spec_l02Sums.mono _ _)
      | (with_reducible exact LeO.refl _)
      | (with_reducible exact LeO.none _)
      | (with_reducible refine LeO.ite ?_ ?_)
      | (with_reducible refine LeO.bind ?_ (fun _ => ?_))
      | exact ih0 _ _ _ _
      | exact ih1 _ _ _ _ _ _
      | exact ih2 _ _ _ _ _ _ _
      | exact ih3 _ _ _ _ _ _ _ _ _
      | exact ih4 _ _ _ _ _ _ _ _ _
      | exact ih5 _ _ _ _ _ _ _ _
      | exact spec_l02Ok.mono _ _ _
      | exact spec_l02Sums.mono _ _
      | exact LeO.none _
      | refine LeO.ite ?_ ?_
      | refine LeO.bind ?_ (fun _ => ?_)
    · intro y0 y1 y2 y3 y4 y5 y6 y7 y8
      unfold spec_CanPayFrom.j4
      repeat' first
      | (with_reducible exact ih0 _ _ _ _)
      | (with_reducible exact ih1 _ _ _ _ _ _)
      | (with_reducible exact ih2 _ _ _ _ _ _ _)
      | (with_reducible exact ih3 _ _ _ _ _ _ _ _ _)
      | (with_reducible exact ih4 _ _ _ _ _ _ _ _ _)
      | (with_reducible exact ih5 _ _ _ _ _ _ _ _)
      | (with_reducible exact spec_l02Ok.mono _ _ _)
      | (with_reducible exact spec_l02Sums.mono _ _)
      | (with_reducible exact LeO.refl _)
      | (with_reducible exact LeO.none _)
      | (with_reducible refine LeO.ite ?_ ?_)
      | (with_reducible refine LeO.bind ?_ (fun _ => ?_))
      | exact ih0 _ _ _ _
      | exact ih1 _ _ _ _ _ _
      | exact ih2 _ _ _ _ _ _ _
      | exact ih3 _ _ _ _ _ _ _ _ _
      | exact ih4 _ _ _ _ _ _ _ _ _
      | exact ih5 _ _ _ _ _ _ _ _
      | exact spec_l02Ok.mono _ _ _
      | exact spec_l02Sums.mono _ _
      | exact LeO.none _
      | refine LeO.ite ?_ ?_
      | refine LeO.bind ?_ (fun _ => ?_)
    · intro y0 y1 y2 y3 y4 y5 y6 y7
      unfold spec_CanPayFrom.l4
      repeat' first
      | (with_reducible exact ih0 _ _ _ _)
      | (with_reducible exact ih1 _ _ _ _ _ _)
      | (with_reducible exact ih2 _ _ _ _ _ _ _)
      | (with_reducible exact ih3 _ _ _ _ _ _ _ _ _)
      | (with_reducible exact ih4 _ _ _ _ _ _ _ _ _)
      | (with_reducible exact ih5 _ _ _ _ _ _ _ _)
      | (with_reducible exact spec_l02Ok.mono _ _ _)
      | (with_reducible exact spec_l02Sums.mono _ _)
      | (with_reducible exact LeO.refl _)
      | (with_reducible exact LeO.none _)
      | (with_reducible refine LeO.ite ?_ ?_)
      | (with_reducible refine LeO.bind ?_ (fun _ => ?_))
      | exact ih0 _ _ _ _
      | exact ih1 _ _ _ _ _ _
      | exact ih2 _ _ _ _ _ _ _
      | exact ih3 _ _ _ _ _ _ _ _ _
      | exact ih4 _ _ _ _ _ _ _ _ _
      | exact ih5 _ _ _ _ _ _ _ _
      | exact spec_l02Ok.mono _ _ _
      | exact spec_l02Sums.mono _ _
      | exact LeO.none _
      | refine LeO.ite ?_ ?_
      | refine LeO.bind ?_ (fun _ => ?_)
theorem spec_CanPayFrom.mono : ∀ a0 a1 a2 k, LeO (spec_CanPayFrom.f k a0 a1 a2) (spec_CanPayFrom.f (k + 1) a0 a1 a2) := by
  intro a0 a1 a2 k
  obtain ⟨ih0, ih1, ih2, ih3, ih4, ih5⟩ := spec_CanPayFrom.mono_l k
  unfold spec_CanPayFrom.f
  repeat' first
      | (with_reducible exact ih0 _ _ _ _)
      | (with_reducible exact ih1 _ _ _ _ _ _)
      | (with_reducible exact ih2 _ _ _ _ _ _ _)
      | (with_reducible exact ih3 _ _ _ _ _ _ _ _ _)
      | (with_reducible exact ih4 _ _ _ _ _ _ _ _ _)
      | (with_reducible exact ih5 _ _ _ _ _ _ _ _)
      | (with_reducible exact spec_l02Ok.mono _ _ _)
      | (with_reducible exact spec_l02Sums.mono _ _)
      | (with_reducible exact LeO.refl _)
      | (with_reducible exact LeO.none _)
      | (with_reducible refine LeO.ite ?_ ?_)
      | (with_reducible refine LeO.bind ?_ (fun _ => ?_))
      | exact ih0 _ _ _ _
      | exact ih1 _ _ _ _ _ _
      | exact ih2 _ _ _ _ _ _ _
      | exact ih3 _ _ _ _ _ _ _ _ _
      | exact ih4 _ _ _ _ _ _ _ _ _
      | exact ih5 _ _ _ _ _ _ _ _
      | exact spec_l02Ok.mono _ _ _
      | exact spec_l02Sums.mono _ _
      | exact LeO.none _
      | refine LeO.ite ?_ ?_
      | refine LeO.bind ?_ (fun _ => ?_)
def spec_CanPayFrom.T33 : Bool × List (List Nat × List Nat) := (true, [([], []), ([], []), ([0, 1], [0, 1]), ([2], [2]), ([], []), ([], []), ([], []), ([4], [4]), ([7, 5], [5, 7]), ([8, 6], [6, 8]), ([9], [9]), ([3, 10], [3, 10]), ([0, 1, 0, 1, 2, 3, 4, 5, 6, 7, 8, 9, 10, 11], [0, 1]), ([12, 11, 0, 1, 2, 3, 4, 5, 6, 7, 8, 9, 10, 11], [11, 12])])
def spec_CanPayFrom.B33 : List Nat := [0, 0, 3, 7, 0, 0, 0, 16, 176, 496, 1008, 2047, 4095, 8191]
theorem spec_CanPayFrom.tab33 : rtab .any (opsOf Try.f42 33) = spec_CanPayFrom.T33 := by kernel_rfl
theorem spec_CanPayFrom.bits33 : waitsOk spec_CanPayFrom.T33.2 spec_CanPayFrom.B33 = true := by kernel_rfl
set_option maxHeartbeats 8000000 in
set_option maxRecDepth 100000 in
theorem spec_CanPayFrom.calls (k : Nat) (a0 : Int) (A1 : Option Addr) (c1 : Nat) (l1 : List (S65)) (A2 : Option Addr) (c2 : Nat) (l2 : List Int) (r1 : List Int) (r2 : Int) (w : World) (hr1 : Kd.C k65 w A1 l1.length l1) (hc1 : l1.length ≤ c1) (hr2 : Kd.C (Kd.int .i64) w A2 l2.length l2) (hc2 : l2.length ≤ c2) (h : spec_CanPayFrom.f k a0 l1 l2 = some (r1, r2)) :
    Calls Try.prog 42 #[.int .i64 a0, .slice A1 l1.length c1, .slice A2 l2.length c2] w fun e w' => ∃ v0_ : Value, e = .returned (.tuple #[v0_, .int .i64 r2]) ∧ Kd.R (Kd.int .i64) 2 w' w.heap.size (fun _ => True) v0_ r1 ∧ Below w.heap.size w w' := by
  have HR1 := Aside0.mk hr1
  have HC1 := Aside0.mk hc1
  clear hr1 hc1
  have HR2 := Aside0.mk hr2
  have HC2 := Aside0.mk hc2
  clear hr2 hc2
  have HB := Aside0.mk (Below.refl w.heap.size w)
  have H : ((spec_l02Ok.f k a0 l1).bind fun t146 => (if t146 = true then (if (l2.length : Int) = a0 then (spec_CanPayFrom.l0 k a0 l1 l2 0) else (some ((([] : List Int)), 2))) else (some ((([] : List Int)), 1)))) = some (r1, r2) := h
  clear h
  replace H := Option.bind_eq_some_iff.mp H
  obtain ⟨t146, A40, H⟩ := H
  replace H : (if t146 = true then (if (l2.length : Int) = a0 then (spec_CanPayFrom.l0 k a0 l1 l2 0) else (some ((([] : List Int)), 2))) else (some ((([] : List Int)), 1))) = some (r1, r2) := H
  have A4 := Aside0.mk A40
  clear A40
  by_cases c5 : t146 = true
  · subst c5
    have H1 : (if (l2.length : Int) = a0 then (spec_CanPayFrom.l0 k a0 l1 l2 0) else (some ((([] : List Int)), 2))) = some (r1, r2) := by rw [if_pos rfl] at H; exact H
    clear H
    have H := H1
    clear H1
    by_cases c6 : (l2.length : Int) = a0
    · rw [if_pos c6] at H
      have c6b0 : ((l2.length : Int) == a0) = true := beq_iff_eq.mpr c6
      have c6b1 : ((l2.length : Int) != a0) = false := bne_eq_false_iff_eq.mpr c6
      clear c6
      have H' := Aside0.mk H
      clear H
      go_enter Try.func42, Try.ntmps42
      go_wp2_with (first | ((with_reducible refine gate_callee (f := 59) rfl ?_); refine goesL_ (some 20) rfl rfl Try.func59 (by kernel_rfl) rfl #[.int .i64 a0, .slice A1 l1.length c1] rfl (by (try simp only [List.map_toArray, List.map_cons, List.map_nil]); first | done | (go_simp; done) | rfl | (simp only [List.length_drop, List.length_take]; rfl)) ?_; (with_reducible refine (spec_l02Ok.calls k a0 _ _ l1 true _ ?side1 ?side2 A4.out).mono ?_); (case side1 => repeat (first | exact HR1.out | (with_reducible refine Kd.C_alloc ?_ _) | (with_reducible refine Kd.C_drewN ?_ _) | (with_reducible refine Kd.C_drew ?_))); (case side2 => exact HC1.out); rintro e w7 ⟨rfl, hb⟩; refine ⟨_, rfl, ?_⟩; have n0_ := Aside0.mk (below_step (by repeat (first | (with_reducible first | exact HB.out | apply below_alloc | apply pw_below_drewN | apply below_drew1) | exact HB.out)) hb); clear HB; have HB := n0_; clear n0_; (try clear hb); (try clear hb2); (try clear hk); (try clear hi)))
      go_loopg [8] k (fun kq v8 w' => ∃ (x8_1 : Int), v8 = .int .i64 x8_1 ∧ Aside0 (spec_CanPayFrom.l0 kq a0 l1 l2 x8_1 = some (r1, r2)) ∧ Aside0 (kq ≤ k) ∧ Aside0 (Below w.heap.size w w'))
      case atStart => exact ⟨(0), (by first | rfl | (simp; done) | (simp [*]; done)), H', ⟨Nat.le_refl _⟩, ⟨by repeat (first | (with_reducible first | exact HB.out | apply below_alloc | apply pw_below_drewN | apply below_drew1) | exact HB.out)⟩⟩
      case round =>
        clear H'
        try clear c1
        try clear c2
        try clear p2
        try clear c4
        try clear c5
        try clear c6
        try clear c6b0
        try clear c6b1
        obtain ⟨x8_1, rfl, HA, HK1, HB⟩ := hrel
        cases gk with
        | zero => exact absurd HA.out (by simp [spec_CanPayFrom.l0])
        | succ k1 =>
          have H := HA.out
          clear HA
          simp only [spec_CanPayFrom.l0] at H
          by_cases c8 : x8_1 < (l2.length : Int)
          · rw [if_pos c8] at H
            have c8b0 : decide (x8_1 < (l2.length : Int)) = true := decide_eq_true c8
            clear c8
            by_cases c9 : 0 ≤ x8_1
            · rw [if_pos c9] at H
              have c9b0 : decide (0 ≤ x8_1) = true := decide_eq_true c9
              clear c9
              replace H := Option.bind_eq_some_iff.mp H
              obtain ⟨t154, A100, H⟩ := H
              replace H : (if t154 = true then (spec_CanPayFrom.l0 k1 a0 l1 l2 (wrap64 (x8_1 + 1))) else (some ((([] : List Int)), 2))) = some (r1, r2) := H
              have A10 := Aside0.mk A100
              clear A100
              by_cases c11 : t154 = true
              · subst c11
                have H1 : (spec_CanPayFrom.l0 k1 a0 l1 l2 (wrap64 (x8_1 + 1))) = some (r1, r2) := by rw [if_pos rfl] at H; exact H
                clear H
                have H := H1
                clear H1
                have H' := Aside0.mk H
                clear H
                have p153 : 0 ≤ (x8_1 : Int) := of_decide_eq_true (by first | (with_reducible assumption) | assumption)
                have q153 : x8_1 < (l2.length : Int) := of_decide_eq_true (by first | (with_reducible assumption) | assumption)
                obtain ⟨ad153, e153, hx153_0⟩ := Kd.at_int HR2.out x8_1 p153 q153
                cases e153
                replace hx153_0 := (HB.out.cell (World.block_lt_of_cell? w _ hx153_0)).trans hx153_0
                replace p153 := eq_true p153
                replace q153 := eq_true q153
                go_wp2_with (first | ((with_reducible refine gate_callee (f := 77) rfl ?_); refine goesL_ (some 38) rfl rfl Try.func77 (by kernel_rfl) rfl #[.int .i64 (rd l2 x8_1)] rfl (by (try simp only [List.map_toArray, List.map_cons, List.map_nil]); first | done | (go_simp; done) | rfl | (simp only [List.length_drop, List.length_take]; rfl)) ?_; (with_reducible refine (spec_l01Amount.calls (rd l2 x8_1) true _ A10.out).mono ?_); rintro e w' ⟨rfl, ⟨nd, rfl⟩⟩; refine ⟨_, rfl, ?_⟩))
                go_roundg k1
                case measure => have := HK1.out; omega
                case rel => exact ⟨(wrap64 (x8_1 + 1)), (by first | rfl | (simp; done) | (simp [*]; done)), H', ⟨by have := HK1.out; omega⟩, ⟨by repeat (first | (with_reducible first | exact HB.out | apply below_alloc | apply pw_below_drewN | apply below_drew1) | exact HB.out)⟩⟩
              · replace c11 := Bool.eq_false_iff.mpr c11
                subst c11
                have H1 : (some ((([] : List Int)), 2)) = some (r1, r2) := by rw [if_neg (show ¬ (false = true) by decide)] at H; exact H
                clear H
                have H := H1
                clear H1
                obtain ⟨y155, hy155⟩ : ∃ y_ : List Int, y_ = (([] : List Int)) := ⟨_, rfl⟩
                replace H : (some (y155, 2)) = some (r1, r2) := by first | (rw [hy155]; with_reducible exact H) | (have H2_ := (Option.bind_some _ _).symm.trans H; rw [hy155]; with_reducible exact H2_) | (have H2_ := (Option.bind_some _ _).symm.trans H; with_reducible exact H2_) | with_reducible exact H | (rw [hy155]; exact H) | exact H
                have Ny155 := Aside0.mk hy155
                clear hy155
                simp only [Option.some.injEq, Prod.mk.injEq] at H
                obtain ⟨rfl, rfl⟩ := H
                have p153 : 0 ≤ (x8_1 : Int) := of_decide_eq_true (by first | (with_reducible assumption) | assumption)
                have q153 : x8_1 < (l2.length : Int) := of_decide_eq_true (by first | (with_reducible assumption) | assumption)
                obtain ⟨ad153, e153, hx153_0⟩ := Kd.at_int HR2.out x8_1 p153 q153
                cases e153
                replace hx153_0 := (HB.out.cell (World.block_lt_of_cell? w _ hx153_0)).trans hx153_0
                replace p153 := eq_true p153
                replace q153 := eq_true q153
                go_wp2_with (first | ((with_reducible refine gate_callee (f := 77) rfl ?_); refine goesL_ (some 38) rfl rfl Try.func77 (by kernel_rfl) rfl #[.int .i64 (rd l2 x8_1)] rfl (by (try simp only [List.map_toArray, List.map_cons, List.map_nil]); first | done | (go_simp; done) | rfl | (simp only [List.length_drop, List.length_take]; rfl)) ?_; (with_reducible refine (spec_l01Amount.calls (rd l2 x8_1) false _ A10.out).mono ?_); rintro e w' ⟨rfl, ⟨nd, rfl⟩⟩; refine ⟨_, rfl, ?_⟩) | ((with_reducible refine gate_dst (N := 40) rfl ?_); refine Kd.R_lit (Kd.int .i64) _ 2 ?hg (N := 40) ?hd (xs := ([] : List Int)) (inner := []) (ok := fun _ => True) (okp := fun _ => True) ?hr ?hp (fun _ hk => hk) trivial (Below.refl _ _) (Nat.le_refl _) (by simp) ?_; (case hd => rfl); (case hg => rfl); (case hr => first | (go_simp; done) | (go_simp; rfl)); (case hp => exact (Reps.none _ _)); intro v156 w12 ho13 hb hg_ hnew_; clear hg_ hnew_; (first | rw [← Ny155.out] at ho13 | (simp only [Int.reduceToNat] at ho13; rw [← Ny155.out] at ho13)); have n0_ := Aside0.mk (Kd.R_lower ho13 (below_size (by repeat (first | (with_reducible first | exact HB.out | apply below_alloc | apply pw_below_drewN | apply below_drew1) | exact HB.out)))); have n1_ := Aside0.mk (below_step (by repeat (first | (with_reducible first | exact HB.out | apply below_alloc | apply pw_below_drewN | apply below_drew1) | exact HB.out)) hb); clear HB; have HO157 := n0_; have HB := n1_; clear n0_ n1_; clear hb ho13))
                go_ret2
                exact ⟨_, by first | rfl | (simp [errW_none, errW_some] <;> rfl) | (simp [*, errW_none, errW_some] <;> rfl), by (with_reducible repeat (first | apply Kd.R_alloc | apply Kd.R_drewN | apply Kd.R_drew)); exact HO157.out, by repeat (first | (with_reducible first | exact HB.out | apply below_alloc | apply pw_below_drewN | apply below_drew1) | exact HB.out)⟩
            · rw [if_neg c9] at H
              exact absurd H (by simp)
          · rw [if_neg c8] at H
            have c8b0 : decide (x8_1 < (l2.length : Int)) = false := decide_eq_false c8
            clear c8
            replace H := Option.bind_eq_some_iff.mp H
            obtain ⟨t158, A140, H⟩ := H
            replace H : ((some (([] : List Int) : List Int)).bind fun y160 => (if y160.length + l2.length < 17592186044416 then (if 0 ≤ a0 then (if (a0 : Int).toNat ≤ 281474976710656 then (spec_CanPayFrom.l1 k1 a0 (y160 ++ l2) (List.replicate (a0 : Int).toNat false) (([] : List Int)) true t158) else (none)) else (none)) else (none))) = some (r1, r2) := H
            have A14 := Aside0.mk A140
            clear A140
            obtain ⟨y160, hy160⟩ : ∃ y_ : List Int, y_ = (([] : List Int)) := ⟨_, rfl⟩
            replace H : (if y160.length + l2.length < 17592186044416 then (if 0 ≤ a0 then (if (a0 : Int).toNat ≤ 281474976710656 then (spec_CanPayFrom.l1 k1 a0 (y160 ++ l2) (List.replicate (a0 : Int).toNat false) (([] : List Int)) true t158) else (none)) else (none)) else (none)) = some (r1, r2) := by first | (rw [hy160]; with_reducible exact H) | (have H2_ := (Option.bind_some _ _).symm.trans H; rw [hy160]; with_reducible exact H2_) | (have H2_ := (Option.bind_some _ _).symm.trans H; with_reducible exact H2_) | with_reducible exact H | (rw [hy160]; exact H) | exact H
            have Ny160 := Aside0.mk hy160
            clear hy160
            by_cases c15 : y160.length + l2.length < 17592186044416
            · rw [if_pos c15] at H
              have LMc15 := Aside0.mk c15
              clear c15
              obtain ⟨y163, hy163⟩ : ∃ y_ : List Int, y_ = (y160 ++ l2) := ⟨_, rfl⟩
              replace H : (if 0 ≤ a0 then (if (a0 : Int).toNat ≤ 281474976710656 then (spec_CanPayFrom.l1 k1 a0 y163 (List.replicate (a0 : Int).toNat false) (([] : List Int)) true t158) else (none)) else (none)) = some (r1, r2) := by first | (rw [hy163]; with_reducible exact H) | (have H2_ := (Option.bind_some _ _).symm.trans H; rw [hy163]; with_reducible exact H2_) | (have H2_ := (Option.bind_some _ _).symm.trans H; with_reducible exact H2_) | with_reducible exact H | (rw [hy163]; exact H) | exact H
              have Ny163 := Aside0.mk hy163
              clear hy163
              by_cases c16 : 0 ≤ a0
              · rw [if_pos c16] at H
                have c16b0 := eq_true c16
                have c16b1 : decide (0 ≤ a0) = true := decide_eq_true c16
                clear c16
                by_cases c17 : (a0 : Int).toNat ≤ 281474976710656
                · rw [if_pos c17] at H
                  have c17b0 := eq_true c17
                  have c17b1 : decide ((a0 : Int).toNat ≤ 281474976710656) = true := decide_eq_true c17
                  clear c17
                  obtain ⟨y166, hy166⟩ : ∃ y_ : List Bool, y_ = (List.replicate (a0 : Int).toNat false) := ⟨_, rfl⟩
                  replace H : (spec_CanPayFrom.l1 k1 a0 y163 y166 (([] : List Int)) true t158) = some (r1, r2) := by first | (rw [hy166]; with_reducible exact H) | (have H2_ := (Option.bind_some _ _).symm.trans H; rw [hy166]; with_reducible exact H2_) | (have H2_ := (Option.bind_some _ _).symm.trans H; with_reducible exact H2_) | with_reducible exact H | (rw [hy166]; exact H) | exact H
                  have Ny166 := Aside0.mk hy166
                  clear hy166
                  obtain ⟨y169, hy169⟩ : ∃ y_ : List Int, y_ = (([] : List Int)) := ⟨_, rfl⟩
                  replace H : (spec_CanPayFrom.l1 k1 a0 y163 y166 y169 true t158) = some (r1, r2) := by first | (rw [hy169]; with_reducible exact H) | (have H2_ := (Option.bind_some _ _).symm.trans H; rw [hy169]; with_reducible exact H2_) | (have H2_ := (Option.bind_some _ _).symm.trans H; with_reducible exact H2_) | with_reducible exact H | (rw [hy169]; exact H) | exact H
                  have Ny169 := Aside0.mk hy169
                  clear hy169
                  have H' := Aside0.mk H
                  clear H
                  go_wp2_with (first | ((with_reducible refine gate_callee (f := 54) rfl ?_); refine goesL_ (some 42) rfl rfl Try.func54 (by kernel_rfl) rfl #[.slice A1 l1.length c1] rfl (by (try simp only [List.map_toArray, List.map_cons, List.map_nil]); first | done | (go_simp; done) | rfl | (simp only [List.length_drop, List.length_take]; rfl)) ?_; (with_reducible refine (spec_l02Sums.calls k1 _ _ l1 t158 w _ ?side1 ?side2 ?side3 A14.out).mono ?_); (case side1 => repeat (first | (with_reducible first | exact HB.out | apply below_alloc | apply pw_below_drewN | apply below_drew1) | exact HB.out)); (case side2 => exact HR1.out); (case side3 => exact HC1.out); rintro e w18 ⟨g159, rfl, hi, hb, hb2⟩; refine ⟨_, rfl, ?_⟩; have n0_ := Aside0.mk (hb); have n1_ := Aside0.mk (hi); clear HB; have HB := n0_; have HI159 := n1_; clear n0_ n1_; (try clear hb); (try clear hb2); (try clear hk); (try clear hi)) | ((with_reducible refine gate_dst (N := 43) rfl ?_); refine Kd.R_lit (Kd.int .i64) _ 2 ?hg (N := 43) ?hd (xs := ([] : List Int)) (inner := []) (ok := fun _ => True) (okp := fun _ => True) ?hr ?hp (fun _ hk => hk) trivial (Below.refl _ _) (Nat.le_refl _) (by simp) ?_; (case hd => rfl); (case hg => rfl); (case hr => first | (go_simp; done) | (go_simp; rfl)); (case hp => exact (Reps.none _ _)); intro v161 w19 ho20 hb hg_ hnew_; clear hg_ hnew_; (first | rw [← Ny160.out] at ho20 | (simp only [Int.reduceToNat] at ho20; rw [← Ny160.out] at ho20)); have n0_ := Aside0.mk (Kd.R_lower ho20 (below_size (by repeat (first | (with_reducible first | exact HB.out | apply below_alloc | apply pw_below_drewN | apply below_drew1 | refine below_set ?_ (IsS92.ge HI159.out)) | exact HB.out)))); have n1_ := Aside0.mk (IsS92.below (by repeat (first | (with_reducible first | exact HI159.out | apply IsS92.alloc | apply IsS92.drewN | apply IsS92.drew | apply IsS92.set_0) | exact HI159.out)) hb); have n2_ := Aside0.mk (below_step (by repeat (first | (with_reducible first | exact HB.out | apply below_alloc | apply pw_below_drewN | apply below_drew1 | refine below_set ?_ (IsS92.ge HI159.out)) | exact HB.out)) hb); clear HI159; clear HB; have HO162 := n0_; have HI159 := n1_; have HB := n2_; clear n0_ n1_ n2_; clear hb ho20) | ((with_reducible refine gate_builtin (b := .append) (xs := #[.tmp 43, .tmp 44]) rfl ?_); at_builtin; refine Kd.R_append_rows (Kd.int .i64) (w0 := w) w.heap.size rfl (.tmp 43) (.tmp 44) 34 2 (.int .i64 0) 8 rfl Try.underlying34 info2 rfl (by decide) (by omega) v161 y160 l2 _ _ _ (fun _ => True) (fun _ => False) rfl rfl ?aO ?aR (fun _ _ h => h) (fun _ h => h.elim) ?aF ?aB ?aS ?aL ?_; (case aR => repeat (first | exact (Kd.C_below HR2.out HB.out) | (with_reducible refine Kd.C_alloc ?_ _) | (with_reducible refine Kd.C_drewN ?_ _) | (with_reducible refine Kd.C_drew ?_))); (case aB => exact (by repeat (first | (with_reducible first | exact HB.out | apply below_alloc | apply pw_below_drewN | apply below_drew1 | refine below_set ?_ (IsS92.ge HI159.out)) | exact HB.out))); (case aF => exact (fun _ _ => trivial)); (case aO => exact (by (with_reducible repeat (first | apply Kd.R_alloc | apply Kd.R_drewN | apply Kd.R_drew)); exact HO162.out)); (case aS => exact (below_size (by repeat (first | (with_reducible first | exact HB.out | apply below_alloc | apply pw_below_drewN | apply below_drew1 | refine below_set ?_ (IsS92.ge HI159.out)) | exact HB.out)))); (case aL => have := LMc15.out; omega); intro v164 w21 ho hb hg hat; rw [← Ny163.out] at ho; have n0_ := Aside0.mk (IsS92.grown (by repeat (first | (with_reducible first | exact HI159.out | apply IsS92.alloc | apply IsS92.drewN | apply IsS92.drew | apply IsS92.set_0) | exact HI159.out)) hg (IsS92.own_ne HI159.out HO162.out (by decide))); have n1_ := Aside0.mk (hb); have n2_ := Aside0.mk (ho); clear HI159; clear HB; clear HO162; have HI159 := n0_; have HB := n1_; have HO165 := n2_; clear n0_ n1_ n2_; clear ho hb hg hat) | ((with_reducible refine gate_dst (N := 47) rfl ?_); refine Kd.R_make Kd.bool _ 4 rfl (N := 47) rfl 88 _ _ rfl a0 rfl rfl Try.underlying88 (.bool false) 1 info4 rfl (by decide) (by omega) false (ok := fun _ => True) (okp := fun _ => True) rfl (fun _ hk => hk) trivial (of_decide_eq_true (by first | (with_reducible assumption) | assumption)) (Nat.le_trans (Nat.mul_le_mul_right _ (of_decide_eq_true (by first | (with_reducible assumption) | assumption) : a0.toNat ≤ 281474976710656)) (by omega)) (Below.refl _ _) (Nat.le_refl _) ?_; intro v167 w22 ho23 hb hg_ hnew_; clear hg_ hnew_; (first | rw [← Ny166.out] at ho23 | (simp only [Int.reduceToNat] at ho23; rw [← Ny166.out] at ho23)); have n0_ := Aside0.mk (Kd.R_below (by (with_reducible repeat (first | apply Kd.R_alloc | apply Kd.R_drewN | apply Kd.R_drew)); exact HO165.out) hb); have n1_ := Aside0.mk (Kd.R_lower ho23 (below_size (by repeat (first | (with_reducible first | exact HB.out | apply below_alloc | apply pw_below_drewN | apply below_drew1 | refine below_set ?_ (IsS92.ge HI159.out)) | exact HB.out)))); have n2_ := Aside0.mk (IsS92.below (by repeat (first | (with_reducible first | exact HI159.out | apply IsS92.alloc | apply IsS92.drewN | apply IsS92.drew | apply IsS92.set_0) | exact HI159.out)) hb); have n3_ := Aside0.mk (below_step (by repeat (first | (with_reducible first | exact HB.out | apply below_alloc | apply pw_below_drewN | apply below_drew1 | refine below_set ?_ (IsS92.ge HI159.out)) | exact HB.out)) hb); clear HO165; clear HI159; clear HB; have HO165 := n0_; have HO168 := n1_; have HI159 := n2_; have HB := n3_; clear n0_ n1_ n2_ n3_; clear hb ho23) | ((with_reducible refine gate_dst (N := 48) rfl ?_); refine Kd.R_lit (Kd.int .i64) _ 2 ?hg (N := 48) ?hd (xs := ([] : List Int)) (inner := []) (ok := fun _ => True) (okp := fun _ => True) ?hr ?hp (fun _ hk => hk) trivial (Below.refl _ _) (Nat.le_refl _) (by simp) ?_; (case hd => rfl); (case hg => rfl); (case hr => first | (go_simp; done) | (go_simp; rfl)); (case hp => exact (Reps.none _ _)); intro v170 w24 ho25 hb hg_ hnew_; clear hg_ hnew_; (first | rw [← Ny169.out] at ho25 | (simp only [Int.reduceToNat] at ho25; rw [← Ny169.out] at ho25)); have n0_ := Aside0.mk (Kd.R_elder' (by (with_reducible repeat (first | apply Kd.R_alloc | apply Kd.R_drewN | apply Kd.R_drew)); exact HO165.out) (Kd.R_base ho25) hb); have n1_ := Aside0.mk (Kd.R_below (by (with_reducible repeat (first | apply Kd.R_alloc | apply Kd.R_drewN | apply Kd.R_drew)); exact HO168.out) hb); have n2_ := Aside0.mk (Kd.R_lower (Kd.R_new' ho25 (Kd.R_lt (by (with_reducible repeat (first | apply Kd.R_alloc | apply Kd.R_drewN | apply Kd.R_drew)); exact HO165.out))) (below_size (by repeat (first | (with_reducible first | exact HB.out | apply below_alloc | apply pw_below_drewN | apply below_drew1 | refine below_set ?_ (IsS92.ge HI159.out)) | exact HB.out)))); have n3_ := Aside0.mk (IsS92.below (by repeat (first | (with_reducible first | exact HI159.out | apply IsS92.alloc | apply IsS92.drewN | apply IsS92.drew | apply IsS92.set_0) | exact HI159.out)) hb); have n4_ := Aside0.mk (below_step (by repeat (first | (with_reducible first | exact HB.out | apply below_alloc | apply pw_below_drewN | apply below_drew1 | refine below_set ?_ (IsS92.ge HI159.out)) | exact HB.out)) hb); clear HO165; clear HO168; clear HI159; clear HB; have HO165 := n0_; have HO168 := n1_; have HO171 := n2_; have HI159 := n3_; have HB := n4_; clear n0_ n1_ n2_ n3_ n4_; clear hb ho25))
                  go_loopg [12, 13] k1 (fun kq v12 v13 w' => ∃ (x10_2 : List Int) (x11_2 : List Bool) (x12_2 : List Int) (x13_2 : Bool), v13 = .bool x13_2 ∧ Aside0 (spec_CanPayFrom.l1 kq a0 x10_2 x11_2 x12_2 x13_2 t158 = some (r1, r2)) ∧ Aside0 (kq ≤ k1) ∧ Aside0 (Kd.R (Kd.int .i64) 2 w' w.heap.size (fun k_ => some k_ ≠ (v12 : Value).ownBlock) v164 x10_2) ∧ Aside0 (Kd.R Kd.bool 4 w' w.heap.size (fun _ => True) v167 x11_2) ∧ Aside0 (Kd.R (Kd.int .i64) 2 w' w.heap.size (fun k_ => some k_ ≠ (v164 : Value).ownBlock) v12 x12_2) ∧ Aside0 (IsS92 w w' g159 t158) ∧ Aside0 (Below w.heap.size w w'))
                  case atStart => exact ⟨(y163), (y166), (y169), (true), (by first | rfl | (simp; done) | (simp [*]; done)), H', ⟨Nat.le_refl _⟩, ⟨by (with_reducible repeat (first | apply Kd.R_alloc | apply Kd.R_drewN | apply Kd.R_drew)); exact Kd.R_mono HO165.out (fun _ hk => hk.2)⟩, ⟨by (with_reducible repeat (first | apply Kd.R_alloc | apply Kd.R_drewN | apply Kd.R_drew)); exact HO168.out⟩, ⟨by (with_reducible repeat (first | apply Kd.R_alloc | apply Kd.R_drewN | apply Kd.R_drew)); exact Kd.R_mono HO171.out (fun _ hk => hk.2)⟩, ⟨by repeat (first | (with_reducible first | exact HI159.out | apply IsS92.alloc | apply IsS92.drewN | apply IsS92.drew | apply IsS92.set_0) | exact HI159.out)⟩, ⟨by repeat (first | (with_reducible first | exact HB.out | apply below_alloc | apply pw_below_drewN | apply below_drew1 | refine below_set ?_ (IsS92.ge HI159.out)) | exact HB.out)⟩⟩
                  case round =>
                    clear H'
                    try clear c1
                    try clear p1
                    try clear q1
                    try clear hx1
                    try clear c2
                    try clear p2
                    try clear c4
                    try clear c5
                    try clear c6
                    try clear c6b0
                    try clear c6b1
                    try clear p6
                    try clear c7
                    try clear c8
                    try clear c8b0
                    try clear c9
                    try clear c9b0
                    try clear c11
                    try clear c15
                    try clear p15
                    try clear q15
                    try clear hx15
                    try clear c16
                    try clear c16b0
                    try clear c16b1
                    try clear c17
                    try clear c17b0
                    try clear c17b1
                    try clear hx153_0
                    try clear p153
                    try clear p2
                    try clear q153
                    obtain ⟨x10_2, x11_2, x12_2, x13_2, rfl, HA, HK2, HO_10, HO_11, HO_12, HI159, HB⟩ := hrel
                    cases gk with
                    | zero => exact absurd HA.out (by simp [spec_CanPayFrom.l1])
                    | succ k2 =>
                      have H := HA.out
                      clear HA
                      simp only [spec_CanPayFrom.l1] at H
                      by_cases c26 : x13_2 = true
                      · subst c26
                        have H1 : (spec_CanPayFrom.l2 k2 a0 x10_2 x11_2 x12_2 false 0 t158) = some (r1, r2) := by rw [if_pos rfl] at H; exact H
                        clear H
                        have H := H1
                        clear H1
                        have H' := Aside0.mk H
                        clear H
                        go_wp2
                        go_loopg [12, 13, 14] k2 (fun kq v12 v13 v14 w' => ∃ (x10_3 : List Int) (x11_3 : List Bool) (x12_3 : List Int) (x13_3 : Bool) (x14_3 : Int), v13 = .bool x13_3 ∧ v14 = .int .i64 x14_3 ∧ Aside0 (spec_CanPayFrom.l2 kq a0 x10_3 x11_3 x12_3 x13_3 x14_3 t158 = some (r1, r2)) ∧ Aside0 (kq ≤ k2) ∧ Aside0 (Kd.R (Kd.int .i64) 2 w' w.heap.size (fun k_ => some k_ ≠ (v12 : Value).ownBlock) v164 x10_3) ∧ Aside0 (Kd.R Kd.bool 4 w' w.heap.size (fun _ => True) v167 x11_3) ∧ Aside0 (Kd.R (Kd.int .i64) 2 w' w.heap.size (fun k_ => some k_ ≠ (v164 : Value).ownBlock) v12 x12_3) ∧ Aside0 (IsS92 w w' g159 t158) ∧ Aside0 (Below w.heap.size w w'))
                        case atStart => exact ⟨(x10_2), (x11_2), (x12_2), (false), (0), (by first | rfl | (simp; done) | (simp [*]; done)), (by first | rfl | (simp; done) | (simp [*]; done)), H', ⟨Nat.le_refl _⟩, ⟨by (with_reducible repeat (first | apply Kd.R_alloc | apply Kd.R_drewN | apply Kd.R_drew)); exact HO_10.out⟩, ⟨by (with_reducible repeat (first | apply Kd.R_alloc | apply Kd.R_drewN | apply Kd.R_drew)); exact HO_11.out⟩, ⟨by (with_reducible repeat (first | apply Kd.R_alloc | apply Kd.R_drewN | apply Kd.R_drew)); exact HO_12.out⟩, ⟨by repeat (first | (with_reducible first | exact HI159.out | apply IsS92.alloc | apply IsS92.drewN | apply IsS92.drew | apply IsS92.set_0) | exact HI159.out)⟩, ⟨by repeat (first | (with_reducible first | exact HB.out | apply below_alloc | apply pw_below_drewN | apply below_drew1 | refine below_set ?_ (IsS92.ge HI159.out)) | exact HB.out)⟩⟩
                        case round =>
                          clear H'
                          try clear c1
                          try clear p1
                          try clear q1
                          try clear hx1
                          try clear c2
                          try clear p2
                          try clear c4
                          try clear c5
                          try clear c6
                          try clear c6b0
                          try clear c6b1
                          try clear p6
                          try clear c7
                          try clear c8
                          try clear c8b0
                          try clear c9
                          try clear c9b0
                          try clear c11
                          try clear c15
                          try clear p15
                          try clear q15
                          try clear hx15
                          try clear c16
                          try clear c16b0
                          try clear c16b1
                          try clear c17
                          try clear c17b0
                          try clear c17b1
                          try clear c26
                          try clear hx153_0
                          try clear p1
                          try clear p15
                          try clear p153
                          try clear p2
                          try clear p6
                          try clear q1
                          try clear q15
                          try clear q153
                          obtain ⟨x10_3, x11_3, x12_3, x13_3, x14_3, rfl, rfl, HA, HK3, HO_10, HO_11, HO_12, HI159, HB⟩ := hrel
                          cases gk with
                          | zero => exact absurd HA.out (by simp [spec_CanPayFrom.l2])
                          | succ k3 =>
                            have H := HA.out
                            clear HA
                            simp only [spec_CanPayFrom.l2] at H
                            by_cases c27 : x14_3 < a0
                            · rw [if_pos c27] at H
                              have c27b0 : decide (x14_3 < a0) = true := decide_eq_true c27
                              clear c27
                              have H' := Aside0.mk H
                              clear H
                              go_wp2
                              go_loopg [15, 16] k3 (fun kq v15 v16 w' => ∃ (x15_4 : Int) (x16_4 : Int), v15 = .int .i64 x15_4 ∧ v16 = .int .i64 x16_4 ∧ Aside0 (spec_CanPayFrom.l3 kq a0 x10_3 x11_3 x12_3 x13_3 x14_3 x15_4 x16_4 t158 = some (r1, r2)) ∧ Aside0 (kq ≤ k3) ∧ Aside0 (Kd.R (Kd.int .i64) 2 w' w.heap.size (fun k_ => some k_ ≠ (u12 : Value).ownBlock) v164 x10_3) ∧ Aside0 (Kd.R Kd.bool 4 w' w.heap.size (fun _ => True) v167 x11_3) ∧ Aside0 (Kd.R (Kd.int .i64) 2 w' w.heap.size (fun k_ => some k_ ≠ (v164 : Value).ownBlock) u12 x12_3) ∧ Aside0 (IsS92 w w' g159 t158) ∧ Aside0 (Below w.heap.size w w'))
                              case atStart => exact ⟨(0), (0), (by first | rfl | (simp; done) | (simp [*]; done)), (by first | rfl | (simp; done) | (simp [*]; done)), H', ⟨Nat.le_refl _⟩, ⟨by (with_reducible repeat (first | apply Kd.R_alloc | apply Kd.R_drewN | apply Kd.R_drew)); exact HO_10.out⟩, ⟨by (with_reducible repeat (first | apply Kd.R_alloc | apply Kd.R_drewN | apply Kd.R_drew)); exact HO_11.out⟩, ⟨by (with_reducible repeat (first | apply Kd.R_alloc | apply Kd.R_drewN | apply Kd.R_drew)); exact HO_12.out⟩, ⟨by repeat (first | (with_reducible first | exact HI159.out | apply IsS92.alloc | apply IsS92.drewN | apply IsS92.drew | apply IsS92.set_0) | exact HI159.out)⟩, ⟨by repeat (first | (with_reducible first | exact HB.out | apply below_alloc | apply pw_below_drewN | apply below_drew1 | refine below_set ?_ (IsS92.ge HI159.out)) | exact HB.out)⟩⟩
                              case round =>
                                clear H'
                                try clear c1
                                try clear p1
                                try clear q1
                                try clear hx1
                                try clear c2
                                try clear p2
                                try clear c4
                                try clear c5
                                try clear c6
                                try clear c6b0
                                try clear c6b1
                                try clear p6
                                try clear c7
                                try clear c8
                                try clear c8b0
                                try clear c9
                                try clear c9b0
                                try clear c11
                                try clear c15
                                try clear p15
                                try clear q15
                                try clear hx15
                                try clear c16
                                try clear c16b0
                                try clear c16b1
                                try clear c17
                                try clear c17b0
                                try clear c17b1
                                try clear c26
                                try clear c27
                                try clear c27b0
                                try clear hx153_0
                                try clear p1
                                try clear p15
                                try clear p153
                                try clear p2
                                try clear p6
                                try clear q1
                                try clear q15
                                try clear q153
                                obtain ⟨x15_4, x16_4, rfl, rfl, HA, HK4, HO_10, HO_11, HO_12, HI159, HB⟩ := hrel
                                cases gk with
                                | zero => exact absurd HA.out (by simp [spec_CanPayFrom.l3])
                                | succ k4 =>
                                  have H := HA.out
                                  clear HA
                                  simp only [spec_CanPayFrom.l3] at H
                                  by_cases c28 : x16_4 < a0
                                  · rw [if_pos c28] at H
                                    have c28b0 : decide (x16_4 < a0) = true := decide_eq_true c28
                                    clear c28
                                    by_cases c29 : 0 ≤ x14_3
                                    · rw [if_pos c29] at H
                                      have c29b0 : decide (0 ≤ x14_3) = true := decide_eq_true c29
                                      clear c29
                                      by_cases c30 : x14_3 < 16
                                      · rw [if_pos c30] at H
                                        have c30b0 : decide (x14_3 < 16) = true := decide_eq_true c30
                                        clear c30
                                        by_cases c32 : 0 ≤ x16_4
                                        · rw [if_pos c32] at H
                                          have c32b0 : decide (0 ≤ x16_4) = true := decide_eq_true c32
                                          clear c32
                                          by_cases c33 : x16_4 < 16
                                          · rw [if_pos c33] at H
                                            have c33b0 : decide (x16_4 < 16) = true := decide_eq_true c33
                                            clear c33
                                            have H' := Aside0.mk H
                                            clear H
                                            have p31 : 0 ≤ (x14_3 : Int) := of_decide_eq_true (by first | (with_reducible assumption) | assumption)
                                            have q31 : (x14_3 : Int) < 16 := of_decide_eq_true (by first | (with_reducible assumption) | assumption)
                                            replace p31 := eq_true p31
                                            replace q31 := eq_true q31
                                            have p34 : 0 ≤ (x16_4 : Int) := of_decide_eq_true (by first | (with_reducible assumption) | assumption)
                                            have q34 : (x16_4 : Int) < 16 := of_decide_eq_true (by first | (with_reducible assumption) | assumption)
                                            replace p34 := eq_true p34
                                            replace q34 := eq_true q34
                                            have hx35 : wr.cell? ⟨g159, x14_3.toNat * 16 + x16_4.toNat, none⟩ = some (.int .i64 (Arr.vrd2 16 t158 x14_3 x16_4)) := Arr.cellN (off := 0) (l := (Arr.arL .i64 t158)) ((show IsS92 w wr g159 t158 from by repeat (first | (with_reducible first | exact HI159.out | apply IsS92.alloc | apply IsS92.drewN | apply IsS92.drew | apply IsS92.set_0) | exact HI159.out)).1) rfl (x14_3.toNat * 16 + x16_4.toNat) (x14_3.toNat * 16 + x16_4.toNat) (by omega) (by have a0_ := of_eq_true p31; have b0_ := of_eq_true q31; have a1_ := of_eq_true p34; have b1_ := of_eq_true q34; omega)
                                            have hf35 := blk_frozen ((show IsS92 w wr g159 t158 from by repeat (first | (with_reducible first | exact HI159.out | apply IsS92.alloc | apply IsS92.drewN | apply IsS92.drew | apply IsS92.set_0) | exact HI159.out)).1) (x14_3.toNat * 16 + x16_4.toNat)
                                            go_wp2
                                            go_roundg k4
                                            case measure => have := HK1.out; have := HK2.out; have := HK3.out; have := HK4.out; omega
                                            case rel => exact ⟨(wrap64 (x15_4 + (Arr.vrd2 16 t158 x14_3 x16_4))), (wrap64 (x16_4 + 1)), (by first | rfl | (simp; done) | (simp [*]; done)), (by first | rfl | (simp; done) | (simp [*]; done)), H', ⟨by have := HK1.out; have := HK2.out; have := HK3.out; have := HK4.out; omega⟩, ⟨by (with_reducible repeat (first | apply Kd.R_alloc | apply Kd.R_drewN | apply Kd.R_drew)); exact HO_10.out⟩, ⟨by (with_reducible repeat (first | apply Kd.R_alloc | apply Kd.R_drewN | apply Kd.R_drew)); exact HO_11.out⟩, ⟨by (with_reducible repeat (first | apply Kd.R_alloc | apply Kd.R_drewN | apply Kd.R_drew)); exact HO_12.out⟩, ⟨by repeat (first | (with_reducible first | exact HI159.out | apply IsS92.alloc | apply IsS92.drewN | apply IsS92.drew | apply IsS92.set_0) | exact HI159.out)⟩, ⟨by repeat (first | (with_reducible first | exact HB.out | apply below_alloc | apply pw_below_drewN | apply below_drew1 | refine below_set ?_ (IsS92.ge HI159.out)) | exact HB.out)⟩⟩
                                          · rw [if_neg c33] at H
                                            exact absurd H (by simp)
                                        · rw [if_neg c32] at H
                                          exact absurd H (by simp)
                                      · rw [if_neg c30] at H
                                        exact absurd H (by simp)
                                    · rw [if_neg c29] at H
                                      exact absurd H (by simp)
                                  · rw [if_neg c28] at H
                                    have c28b0 : decide (x16_4 < a0) = false := decide_eq_false c28
                                    clear c28
                                    have HC36 := Aside0.mk H
                                    clear H
                                    go_upto_region 25 with (fail)
                                    go_cut [80] (fun v80 wc => ∃ (kq : Nat) (x80_35 : Bool), v80 = .bool x80_35 ∧ Aside0 (spec_CanPayFrom.j4 kq a0 x10_3 x11_3 x12_3 x13_3 x14_3 x15_4 x80_35 t158 = some (r1, r2)) ∧ Aside0 (kq ≤ k4) ∧ Aside0 (Kd.R (Kd.int .i64) 2 wc w.heap.size (fun k_ => some k_ ≠ (u12 : Value).ownBlock) v164 x10_3) ∧ Aside0 (Kd.R Kd.bool 4 wc w.heap.size (fun _ => True) v167 x11_3) ∧ Aside0 (Kd.R (Kd.int .i64) 2 wc w.heap.size (fun k_ => some k_ ≠ (v164 : Value).ownBlock) u12 x12_3) ∧ Aside0 (IsS92 w wc g159 t158) ∧ Aside0 (Below w.heap.size w wc))
                                    case first =>
                                      have H := HC36.out
                                      clear HC36
                                      by_cases c37 : 0 ≤ x14_3
                                      · rw [if_pos c37] at H
                                        have c37b0 : decide (0 ≤ x14_3) = true := decide_eq_true c37
                                        clear c37
                                        (first | rw [c37b0] | (simp only [i64_w, i32_w]; rw [c37b0]) | skip)
                                        by_cases c38 : x14_3 < (x11_3.length : Int)
                                        · rw [if_pos c38] at H
                                          have c38b0 : decide (x14_3 < (x11_3.length : Int)) = true := decide_eq_true c38
                                          clear c38
                                          obtain ⟨bq39, hbq39⟩ : ∃ b_ : Bool, b_ = (rdOf false x11_3 x14_3) := ⟨_, rfl⟩
                                          replace H : (if bq39 = true then (spec_CanPayFrom.j4 k4 a0 x10_3 x11_3 x12_3 x13_3 x14_3 x15_4 true t158) else (if x14_3 < (x10_3.length : Int) then (spec_CanPayFrom.j4 k4 a0 x10_3 x11_3 x12_3 x13_3 x14_3 x15_4 (decide ((rd x10_3 x14_3) < x15_4)) t158) else (none))) = some (r1, r2) := by rw [← hbq39] at H; exact H
                                          have Nbq39 := Aside0.mk hbq39
                                          clear hbq39
                                          by_cases c40 : bq39 = true
                                          · subst c40
                                            have H1 : (spec_CanPayFrom.j4 k4 a0 x10_3 x11_3 x12_3 x13_3 x14_3 x15_4 true t158) = some (r1, r2) := by rw [if_pos rfl] at H; exact H
                                            clear H
                                            have H := H1
                                            clear H1
                                            have H' := Aside0.mk H
                                            clear H
                                            obtain ⟨Ao41, co41, eo41⟩ := Kd.R_slice HO_11.out
                                            subst eo41
                                            have p172 : 0 ≤ (x14_3 : Int) := of_decide_eq_true (by first | (with_reducible assumption) | assumption)
                                            have q172 : x14_3 < (x11_3.length : Int) := of_decide_eq_true (by first | (with_reducible assumption) | assumption)
                                            obtain ⟨ad172, e172, hx172_0⟩ := Kd.at_bool (Kd.R_reads' HO_11.out).2.2 x14_3 p172 q172
                                            (try rw [← Nbq39.out] at hx172_0)
                                            cases e172
                                            replace p172 := eq_true p172
                                            replace q172 := eq_true q172
                                            go_wp2
                                            go_meet
                                            case rel => exact ⟨_, (true), (by first | rfl | (simp; done) | (simp [*]; done)), H', ⟨by have := HK1.out; have := HK2.out; have := HK3.out; have := HK4.out; first | omega | exact Nat.le_refl _⟩, ⟨by (with_reducible repeat (first | apply Kd.R_alloc | apply Kd.R_drewN | apply Kd.R_drew)); exact HO_10.out⟩, ⟨by (with_reducible repeat (first | apply Kd.R_alloc | apply Kd.R_drewN | apply Kd.R_drew)); exact HO_11.out⟩, ⟨by (with_reducible repeat (first | apply Kd.R_alloc | apply Kd.R_drewN | apply Kd.R_drew)); exact HO_12.out⟩, ⟨by repeat (first | (with_reducible first | exact HI159.out | apply IsS92.alloc | apply IsS92.drewN | apply IsS92.drew | apply IsS92.set_0) | exact HI159.out)⟩, ⟨by repeat (first | (with_reducible first | exact HB.out | apply below_alloc | apply pw_below_drewN | apply below_drew1 | refine below_set ?_ (IsS92.ge HI159.out)) | exact HB.out)⟩⟩
                                          · replace c40 := Bool.eq_false_iff.mpr c40
                                            subst c40
                                            have H1 : (if x14_3 < (x10_3.length : Int) then (spec_CanPayFrom.j4 k4 a0 x10_3 x11_3 x12_3 x13_3 x14_3 x15_4 (decide ((rd x10_3 x14_3) < x15_4)) t158) else (none)) = some (r1, r2) := by rw [if_neg (show ¬ (false = true) by decide)] at H; exact H
                                            clear H
                                            have H := H1
                                            clear H1
                                            by_cases c42 : x14_3 < (x10_3.length : Int)
                                            · rw [if_pos c42] at H
                                              have c42b0 : decide (x14_3 < (x10_3.length : Int)) = true := decide_eq_true c42
                                              clear c42
                                              have H' := Aside0.mk H
                                              clear H
                                              obtain ⟨Ao43, co43, eo43⟩ := Kd.R_slice HO_11.out
                                              subst eo43
                                              have p172 : 0 ≤ (x14_3 : Int) := of_decide_eq_true (by first | (with_reducible assumption) | assumption)
                                              have q172 : x14_3 < (x11_3.length : Int) := of_decide_eq_true (by first | (with_reducible assumption) | assumption)
                                              obtain ⟨ad172, e172, hx172_0⟩ := Kd.at_bool (Kd.R_reads' HO_11.out).2.2 x14_3 p172 q172
                                              (try rw [← Nbq39.out] at hx172_0)
                                              cases e172
                                              replace p172 := eq_true p172
                                              replace q172 := eq_true q172
                                              obtain ⟨Ao44, co44, eo44⟩ := Kd.R_slice HO_10.out
                                              subst eo44
                                              have p173 : 0 ≤ (x14_3 : Int) := of_decide_eq_true (by first | (with_reducible assumption) | assumption)
                                              have q173 : x14_3 < (x10_3.length : Int) := of_decide_eq_true (by first | (with_reducible assumption) | assumption)
                                              obtain ⟨ad173, e173, hx173_0⟩ := Kd.at_int (Kd.R_reads' HO_10.out).2.2 x14_3 p173 q173
                                              cases e173
                                              replace p173 := eq_true p173
                                              replace q173 := eq_true q173
                                              go_wp2
                                              go_meet
                                              case rel => exact ⟨_, (decide ((rd x10_3 x14_3) < x15_4)), (by first | rfl | (simp; done) | (simp [*]; done)), H', ⟨by have := HK1.out; have := HK2.out; have := HK3.out; have := HK4.out; first | omega | exact Nat.le_refl _⟩, ⟨by (with_reducible repeat (first | apply Kd.R_alloc | apply Kd.R_drewN | apply Kd.R_drew)); exact HO_10.out⟩, ⟨by (with_reducible repeat (first | apply Kd.R_alloc | apply Kd.R_drewN | apply Kd.R_drew)); exact HO_11.out⟩, ⟨by (with_reducible repeat (first | apply Kd.R_alloc | apply Kd.R_drewN | apply Kd.R_drew)); exact HO_12.out⟩, ⟨by repeat (first | (with_reducible first | exact HI159.out | apply IsS92.alloc | apply IsS92.drewN | apply IsS92.drew | apply IsS92.set_0) | exact HI159.out)⟩, ⟨by repeat (first | (with_reducible first | exact HB.out | apply below_alloc | apply pw_below_drewN | apply below_drew1 | refine below_set ?_ (IsS92.ge HI159.out)) | exact HB.out)⟩⟩
                                            · rw [if_neg c42] at H
                                              exact absurd H (by simp)
                                        · rw [if_neg c38] at H
                                          exact absurd H (by simp)
                                      · rw [if_neg c37] at H
                                        exact absurd H (by simp)
                                    case rest =>
                                      clear HC36
                                      try clear c1
                                      try clear p1
                                      try clear q1
                                      try clear hx1
                                      try clear c2
                                      try clear p2
                                      try clear c3
                                      try clear p3
                                      try clear q3
                                      try clear hx3
                                      try clear hf3
                                      try clear c4
                                      try clear c5
                                      try clear c6
                                      try clear c6b0
                                      try clear c6b1
                                      try clear p6
                                      try clear c7
                                      try clear c8
                                      try clear c8b0
                                      try clear c9
                                      try clear c9b0
                                      try clear c11
                                      try clear c15
                                      try clear p15
                                      try clear q15
                                      try clear hx15
                                      try clear c16
                                      try clear c16b0
                                      try clear c16b1
                                      try clear c17
                                      try clear c17b0
                                      try clear c17b1
                                      try clear p17
                                      try clear q17
                                      try clear hx17
                                      try clear c26
                                      try clear c27
                                      try clear c27b0
                                      try clear c28
                                      try clear c28b0
                                      try clear c29
                                      try clear c29b0
                                      try clear c30
                                      try clear c30b0
                                      try clear p31
                                      try clear q31
                                      try clear c32
                                      try clear c32b0
                                      try clear c33
                                      try clear c33b0
                                      try clear p34
                                      try clear q34
                                      try clear hx35
                                      try clear hf35
                                      try clear c37
                                      try clear c37b0
                                      try clear c38
                                      try clear c38b0
                                      try clear q39
                                      try clear c40
                                      try clear c42
                                      try clear c42b0
                                      try clear hx153_0
                                      try clear hx172_0
                                      try clear hx173_0
                                      try clear p1
                                      try clear p15
                                      try clear p153
                                      try clear p172
                                      try clear p173
                                      try clear p2
                                      try clear p31
                                      try clear p34
                                      try clear p6
                                      try clear q1
                                      try clear q15
                                      try clear q153
                                      try clear q172
                                      try clear q173
                                      try clear q31
                                      try clear q34
                                      obtain ⟨kq, x80_35, rfl, HA, HJ35, HO_10, HO_11, HO_12, HI159, HB⟩ := hcut
                                      cases kq with
                                      | zero => exact absurd HA.out (by simp [spec_CanPayFrom.j4])
                                      | succ kj35 =>
                                        have H := HA.out
                                        clear HA
                                        simp only [spec_CanPayFrom.j4] at H
                                        by_cases c45 : x80_35 = true
                                        · subst c45
                                          have H1 : (spec_CanPayFrom.l2 kj35 a0 x10_3 x11_3 x12_3 x13_3 (wrap64 (x14_3 + 1)) t158) = some (r1, r2) := by rw [if_pos rfl] at H; exact H
                                          clear H
                                          have H := H1
                                          clear H1
                                          have H' := Aside0.mk H
                                          clear H
                                          go_wp2
                                          go_roundg kj35
                                          case measure => have := HK1.out; have := HK2.out; have := HK3.out; have := HK4.out; have := HJ35.out; omega
                                          case rel => exact ⟨(x10_3), (x11_3), (x12_3), (x13_3), (wrap64 (x14_3 + 1)), (by first | rfl | (simp; done) | (simp [*]; done)), (by first | rfl | (simp; done) | (simp [*]; done)), H', ⟨by have := HK1.out; have := HK2.out; have := HK3.out; have := HK4.out; have := HJ35.out; omega⟩, ⟨by (with_reducible repeat (first | apply Kd.R_alloc | apply Kd.R_drewN | apply Kd.R_drew)); exact HO_10.out⟩, ⟨by (with_reducible repeat (first | apply Kd.R_alloc | apply Kd.R_drewN | apply Kd.R_drew)); exact HO_11.out⟩, ⟨by (with_reducible repeat (first | apply Kd.R_alloc | apply Kd.R_drewN | apply Kd.R_drew)); exact HO_12.out⟩, ⟨by repeat (first | (with_reducible first | exact HI159.out | apply IsS92.alloc | apply IsS92.drewN | apply IsS92.drew | apply IsS92.set_0) | exact HI159.out)⟩, ⟨by repeat (first | (with_reducible first | exact HB.out | apply below_alloc | apply pw_below_drewN | apply below_drew1 | refine below_set ?_ (IsS92.ge HI159.out)) | exact HB.out)⟩⟩
                                        · replace c45 := Bool.eq_false_iff.mpr c45
                                          subst c45
                                          have H1 : (if 0 ≤ x14_3 then (if x14_3 < (x11_3.length : Int) then (if x12_3.length < 17592186044416 then (if x14_3 < (x10_3.length : Int) then (spec_CanPayFrom.l4 kj35 a0 (x10_3.set (x14_3 : Int).toNat (wrap64 ((rd x10_3 x14_3) - x15_4))) (x11_3.set (x14_3 : Int).toNat true) (x12_3 ++ [x14_3]) true x14_3 0 t158) else (none)) else (none)) else (none)) else (none)) = some (r1, r2) := by rw [if_neg (show ¬ (false = true) by decide)] at H; exact H
                                          clear H
                                          have H := H1
                                          clear H1
                                          by_cases c46 : 0 ≤ x14_3
                                          · rw [if_pos c46] at H
                                            have c46b0 : decide (0 ≤ x14_3) = true := decide_eq_true c46
                                            clear c46
                                            by_cases c47 : x14_3 < (x11_3.length : Int)
                                            · rw [if_pos c47] at H
                                              have c47b0 : decide (x14_3 < (x11_3.length : Int)) = true := decide_eq_true c47
                                              clear c47
                                              obtain ⟨y174, hy174⟩ : ∃ y_ : List Bool, y_ = (x11_3.set (x14_3 : Int).toNat true) := ⟨_, rfl⟩
                                              replace H : (if x12_3.length < 17592186044416 then (if x14_3 < (x10_3.length : Int) then (spec_CanPayFrom.l4 kj35 a0 (x10_3.set (x14_3 : Int).toNat (wrap64 ((rd x10_3 x14_3) - x15_4))) y174 (x12_3 ++ [x14_3]) true x14_3 0 t158) else (none)) else (none)) = some (r1, r2) := by first | (rw [hy174]; with_reducible exact H) | (have H2_ := (Option.bind_some _ _).symm.trans H; rw [hy174]; with_reducible exact H2_) | (have H2_ := (Option.bind_some _ _).symm.trans H; with_reducible exact H2_) | with_reducible exact H | (rw [hy174]; exact H) | exact H
                                              have Ny174 := Aside0.mk hy174
                                              clear hy174
                                              by_cases c49 : x12_3.length < 17592186044416
                                              · rw [if_pos c49] at H
                                                have LMc49 := Aside0.mk c49
                                                clear c49
                                                obtain ⟨y175, hy175⟩ : ∃ y_ : List Int, y_ = (x12_3 ++ [x14_3]) := ⟨_, rfl⟩
                                                replace H : (if x14_3 < (x10_3.length : Int) then (spec_CanPayFrom.l4 kj35 a0 (x10_3.set (x14_3 : Int).toNat (wrap64 ((rd x10_3 x14_3) - x15_4))) y174 y175 true x14_3 0 t158) else (none)) = some (r1, r2) := by first | (rw [hy175]; with_reducible exact H) | (have H2_ := (Option.bind_some _ _).symm.trans H; rw [hy175]; with_reducible exact H2_) | (have H2_ := (Option.bind_some _ _).symm.trans H; with_reducible exact H2_) | with_reducible exact H | (rw [hy175]; exact H) | exact H
                                                have Ny175 := Aside0.mk hy175
                                                clear hy175
                                                by_cases c50 : x14_3 < (x10_3.length : Int)
                                                · rw [if_pos c50] at H
                                                  have c50b0 : decide (x14_3 < (x10_3.length : Int)) = true := decide_eq_true c50
                                                  clear c50
                                                  obtain ⟨y179, hy179⟩ : ∃ y_ : List Int, y_ = (x10_3.set (x14_3 : Int).toNat (wrap64 ((rd x10_3 x14_3) - x15_4))) := ⟨_, rfl⟩
                                                  replace H : (spec_CanPayFrom.l4 kj35 a0 y179 y174 y175 true x14_3 0 t158) = some (r1, r2) := by first | (rw [hy179]; with_reducible exact H) | (have H2_ := (Option.bind_some _ _).symm.trans H; rw [hy179]; with_reducible exact H2_) | (have H2_ := (Option.bind_some _ _).symm.trans H; with_reducible exact H2_) | with_reducible exact H | (rw [hy179]; exact H) | exact H
                                                  have Ny179 := Aside0.mk hy179
                                                  clear hy179
                                                  have H' := Aside0.mk H
                                                  clear H
                                                  have p48 : 0 ≤ (x14_3 : Int) := of_decide_eq_true (by first | (with_reducible assumption) | assumption)
                                                  have q48 : (x14_3 : Int) < ((x11_3.length : Int) : Int) := of_decide_eq_true (by first | (with_reducible assumption) | assumption)
                                                  obtain ⟨go48, co48, eo48, gb48, gl48, cl48, HG48⟩ := Kd.R_form HO_11.out (by omega)
                                                  (first | cases eo48 | (injection eo48 with ea_ en_ ec_; (first | subst ea_ | (injection ea_ with ea_; subst ea_)); subst ec_; clear en_))
                                                  have GB48 := Aside0.mk gb48
                                                  have GG48 := Aside0.mk HG48
                                                  clear gb48 gl48 HG48
                                                  obtain ⟨hx48_0, hf48_0⟩ := Kd.R_celln false HO_11.out (x14_3 : Int) p48 q48
                                                  replace p48 := eq_true p48
                                                  replace q48 := eq_true q48
                                                  have HP52 := Kd.R_putg HO_11.out (x14_3 : Int) true
                                                  go_wp2_with (first | ((with_reducible refine gate_store (t := 4) (p := 83) rfl ?_); refine store_event (t := 4) (p := 83) (v := ?vo_w53) (w1 := (wc.setCell ⟨go48, (x14_3 : Int).toNat, none⟩ (.bool true))) ?hg ?ho ?hn ?hr ?_; (case ho => rfl); (case hg => rfl); (case hn => rfl); (case hr => first | (go_simp; done) | (go_simp; rfl)); intro w53 hw; have hg : wc.grownBy w53 (some go48) := (by rw [hw]; exact HP52.2); have hp_ : Kd.R Kd.bool 4 w53 w.heap.size (fun _ => True) (.slice (some ⟨go48, 0, none⟩) x11_3.length co48) y174 := (by rw [hw, Ny174.out]; exact HP52.1); clear HP52; have n0_ := Aside0.mk (Kd.R_over' (v := (.slice (some ⟨go48, 0, none⟩) x11_3.length co48)) (by (with_reducible repeat (first | apply Kd.R_alloc | apply Kd.R_drewN | apply Kd.R_drew)); exact HO_10.out) (Kd.R_typed HO_11.out) (by decide) hg); have n1_ := Aside0.mk (hp_); have n2_ := Aside0.mk (Kd.R_over' (v := (.slice (some ⟨go48, 0, none⟩) x11_3.length co48)) (by (with_reducible repeat (first | apply Kd.R_alloc | apply Kd.R_drewN | apply Kd.R_drew)); exact HO_12.out) (Kd.R_typed HO_11.out) (by decide) hg); have n3_ := Aside0.mk (IsS92.grown (by repeat (first | (with_reducible first | exact HI159.out | apply IsS92.alloc | apply IsS92.drewN | apply IsS92.drew | apply IsS92.set_0) | exact HI159.out)) hg (IsS92.own_ne HI159.out HO_11.out (by decide))); have n4_ := Aside0.mk ((by rw [hw]; exact below_set (HB.out) GB48.out : Below w.heap.size w w53)); clear HO_10; clear HO_11; clear HO_12; clear HI159; clear HB; have HO_10 := n0_; have HO_11 := n1_; have HO_12 := n2_; have HI159 := n3_; have HB := n4_; clear n0_ n1_ n2_ n3_ n4_; clear hg hw hp_) | ((with_reducible refine gate_builtin (b := .append) (xs := #[.tmp 84, .tmp 86]) rfl ?_); at_builtin; refine Kd.R_append (Kd.int .i64) (w0 := w) w.heap.size rfl (.tmp 84) (.tmp 86) 34 2 (.int .i64 0) 8 rfl Try.underlying34 info2 rfl (by decide) (by omega) u12 x12_3 x14_3 [.int .i64 x14_3] (fun k_ => some k_ ≠ (v164 : Value).ownBlock) (fun _ => False) rfl rfl ?aP (fun _ hk => hk.elim) ?aF ?aO ?aB ?aS ?aL ?_; (case aP => exact rfl); (case aB => exact (by repeat (first | (with_reducible first | exact HB.out | apply below_alloc | apply pw_below_drewN | apply below_drew1 | refine below_set ?_ (IsS92.ge HI159.out)) | exact HB.out))); (case aF => exact (fun k_ hk => Kd.fresh' (Kd.R_lt (by (with_reducible repeat (first | apply Kd.R_alloc | apply Kd.R_drewN | apply Kd.R_drew)); exact HO_10.out)) k_ hk)); (case aO => exact (by (with_reducible repeat (first | apply Kd.R_alloc | apply Kd.R_drewN | apply Kd.R_drew)); exact HO_12.out)); (case aS => exact (below_size (by repeat (first | (with_reducible first | exact HB.out | apply below_alloc | apply pw_below_drewN | apply below_drew1 | refine below_set ?_ (IsS92.ge HI159.out)) | exact HB.out)))); (case aL => have := LMc49.out; omega); intro v176 w54 ho hb hg hat; rw [← Ny175.out] at ho; have n0_ := Aside0.mk (Kd.R_after (ok := (fun _ => True)) (by (with_reducible repeat (first | apply Kd.R_alloc | apply Kd.R_drewN | apply Kd.R_drew)); exact Kd.R_mono HO_10.out (fun _ hk => ⟨trivial, hk⟩)) hg hat); have n1_ := Aside0.mk (Kd.R_over' (by (with_reducible repeat (first | apply Kd.R_alloc | apply Kd.R_drewN | apply Kd.R_drew)); exact HO_11.out) (Kd.R_typed (by (with_reducible repeat (first | apply Kd.R_alloc | apply Kd.R_drewN | apply Kd.R_drew)); exact HO_12.out)) (by decide) hg); have n2_ := Aside0.mk (IsS92.grown (by repeat (first | (with_reducible first | exact HI159.out | apply IsS92.alloc | apply IsS92.drewN | apply IsS92.drew | apply IsS92.set_0) | exact HI159.out)) hg (IsS92.own_ne HI159.out HO_12.out (by decide))); have n3_ := Aside0.mk (hb); have n4_ := Aside0.mk (ho); clear HO_10; clear HO_11; clear HI159; clear HB; clear HO_12; have HO_10 := n0_; have HO_11 := n1_; have HI159 := n2_; have HB := n3_; have HO177 := n4_; clear n0_ n1_ n2_ n3_ n4_; clear ho hb hg hat; obtain ⟨Ao55, co55, eo55⟩ := Kd.R_slice HO_10.out; subst eo55; have p178 : 0 ≤ (x14_3 : Int) := of_decide_eq_true (by first | (with_reducible assumption) | assumption); have q178 : x14_3 < (x10_3.length : Int) := of_decide_eq_true (by first | (with_reducible assumption) | assumption); obtain ⟨ad178, e178, hx178_0⟩ := Kd.at_int (Kd.R_reads' HO_10.out).2.2 x14_3 p178 q178; cases e178; replace p178 := eq_true p178; replace q178 := eq_true q178; have p51 : 0 ≤ (x14_3 : Int) := of_decide_eq_true (by first | (with_reducible assumption) | assumption); have q51 : (x14_3 : Int) < ((x10_3.length : Int) : Int) := of_decide_eq_true (by first | (with_reducible assumption) | assumption); obtain ⟨go51, co51, eo51, gb51, gl51, cl51, HG51⟩ := Kd.R_form HO_10.out (by omega); (first | cases eo51 | (injection eo51 with ea_ en_ ec_; (first | subst ea_ | (injection ea_ with ea_; subst ea_)); subst ec_; clear en_)); have GB51 := Aside0.mk gb51; have GG51 := Aside0.mk HG51; clear gb51 gl51 HG51; (first | simp only [add_plain] at hx178_0 | skip); obtain ⟨hx51_0, hf51_0⟩ := Kd.R_celln 0 HO_10.out (x14_3 : Int) p51 q51; replace p51 := eq_true p51; replace q51 := eq_true q51; have n_ := Aside0.mk (Kd.R_mono (ok' := (fun k_ => some k_ ≠ (v176 : Value).ownBlock)) HO_10.out (fun k_ hk => hk.2)); clear HO_10; have HO_10 := n_; clear n_; obtain ⟨hy56_, hz56_⟩ := Kd.R_celln 0 HO_10.out (x14_3 : Int) (of_decide_eq_true (by first | (with_reducible assumption) | assumption)) (of_decide_eq_true (by first | (with_reducible assumption) | assumption)); have HP56 := Kd.R_putg HO_10.out (x14_3 : Int) (wrap64 ((rd x10_3 x14_3) - x15_4))) | ((with_reducible refine gate_store (t := 2) (p := 94) rfl ?_); refine store_event (t := 2) (p := 94) (v := ?vo_w57) (w1 := (w54.setCell ⟨go51, (x14_3 : Int).toNat, none⟩ (.int .i64 (wrap64 ((rd x10_3 x14_3) - x15_4))))) ?hg ?ho ?hn ?hr ?_; (case ho => rfl); (case hg => rfl); (case hn => rfl); (case hr => first | (go_simp; done) | (go_simp; rfl)); intro w57 hw; have hg : w54.grownBy w57 (some go51) := (by rw [hw]; exact HP56.2); have hp_ : Kd.R (Kd.int .i64) 2 w57 w.heap.size (fun k_ => some k_ ≠ (v176 : Value).ownBlock) (.slice (some ⟨go51, 0, none⟩) x10_3.length co55) y179 := (by rw [hw, Ny179.out]; exact HP56.1); clear HP56; have n0_ := Aside0.mk (hp_); have n1_ := Aside0.mk (Kd.R_over' (v := (.slice (some ⟨go51, 0, none⟩) x10_3.length co55)) (by (with_reducible repeat (first | apply Kd.R_alloc | apply Kd.R_drewN | apply Kd.R_drew)); exact HO_11.out) (Kd.R_typed HO_10.out) (by decide) hg); have n2_ := Aside0.mk (IsS92.grown (by repeat (first | (with_reducible first | exact HI159.out | apply IsS92.alloc | apply IsS92.drewN | apply IsS92.drew | apply IsS92.set_0) | exact HI159.out)) hg (IsS92.own_ne HI159.out HO_10.out (by decide))); have n3_ := Aside0.mk (Kd.R_after (v := (.slice (some ⟨go51, 0, none⟩) x10_3.length co55)) (v1 := (.slice (some ⟨go51, 0, none⟩) x10_3.length co55)) (ok := (fun _ => True)) (by (with_reducible repeat (first | apply Kd.R_alloc | apply Kd.R_drewN | apply Kd.R_drew)); exact Kd.R_mono HO177.out (fun _ hk => ⟨trivial, hk⟩)) hg (.inl rfl)); have n4_ := Aside0.mk ((by rw [hw]; exact below_set (HB.out) GB51.out : Below w.heap.size w w57)); clear HO_10; clear HO_11; clear HI159; clear HO177; clear HB; have HO_10 := n0_; have HO_11 := n1_; have HI159 := n2_; have HO177 := n3_; have HB := n4_; clear n0_ n1_ n2_ n3_ n4_; clear hg hw hp_))
                                                  go_loopg [17] kj35 (fun kq v17 w' => ∃ (x10_6 : List Int) (x17_6 : Int), v17 = .int .i64 x17_6 ∧ Aside0 (spec_CanPayFrom.l4 kq a0 x10_6 y174 y175 true x14_3 x17_6 t158 = some (r1, r2)) ∧ Aside0 (kq ≤ kj35) ∧ Aside0 (Kd.R (Kd.int .i64) 2 w' w.heap.size (fun k_ => some k_ ≠ (v176 : Value).ownBlock) (.slice (some ⟨go51, 0, none⟩) x10_3.length co55) x10_6) ∧ Aside0 (Kd.R Kd.bool 4 w' w.heap.size (fun _ => True) (.slice (some ⟨go48, 0, none⟩) x11_3.length co48) y174) ∧ Aside0 (Kd.R (Kd.int .i64) 2 w' w.heap.size (fun k_ => some k_ ≠ ((.slice (some ⟨go51, 0, none⟩) x10_3.length co55) : Value).ownBlock) v176 y175) ∧ Aside0 (IsS92 w w' g159 t158) ∧ Aside0 (Below w.heap.size w w'))
                                                  case atStart => exact ⟨(y179), (0), (by first | rfl | (simp; done) | (simp [*]; done)), H', ⟨Nat.le_refl _⟩, ⟨by (with_reducible repeat (first | apply Kd.R_alloc | apply Kd.R_drewN | apply Kd.R_drew)); exact HO_10.out⟩, ⟨by (with_reducible repeat (first | apply Kd.R_alloc | apply Kd.R_drewN | apply Kd.R_drew)); exact HO_11.out⟩, ⟨by (with_reducible repeat (first | apply Kd.R_alloc | apply Kd.R_drewN | apply Kd.R_drew)); exact Kd.R_mono HO177.out (fun _ hk => hk.2)⟩, ⟨by repeat (first | (with_reducible first | exact HI159.out | apply IsS92.alloc | apply IsS92.drewN | apply IsS92.drew | apply IsS92.set_0) | exact HI159.out)⟩, ⟨by repeat (first | (with_reducible first | exact HB.out | apply below_alloc | apply pw_below_drewN | apply below_drew1 | refine below_set ?_ (IsS92.ge HI159.out)) | exact HB.out)⟩⟩
                                                  case round =>
                                                    clear H'
                                                    try clear c1
                                                    try clear p1
                                                    try clear q1
                                                    try clear hx1
                                                    try clear c2
                                                    try clear p2
                                                    try clear c3
                                                    try clear p3
                                                    try clear q3
                                                    try clear hx3
                                                    try clear hf3
                                                    try clear c4
                                                    try clear p4
                                                    try clear q4
                                                    try clear hx4
                                                    try clear hf4
                                                    try clear c5
                                                    try clear p5
                                                    try clear q5
                                                    try clear hx5
                                                    try clear hf5
                                                    try clear c6
                                                    try clear c6b0
                                                    try clear c6b1
                                                    try clear p6
                                                    try clear c7
                                                    try clear c8
                                                    try clear c8b0
                                                    try clear c9
                                                    try clear c9b0
                                                    try clear c11
                                                    try clear c15
                                                    try clear p15
                                                    try clear q15
                                                    try clear hx15
                                                    try clear c16
                                                    try clear c16b0
                                                    try clear c16b1
                                                    try clear c17
                                                    try clear c17b0
                                                    try clear c17b1
                                                    try clear p17
                                                    try clear q17
                                                    try clear hx17
                                                    try clear c26
                                                    try clear c27
                                                    try clear c27b0
                                                    try clear c28
                                                    try clear c28b0
                                                    try clear c29
                                                    try clear c29b0
                                                    try clear c30
                                                    try clear c30b0
                                                    try clear p31
                                                    try clear q31
                                                    try clear c32
                                                    try clear c32b0
                                                    try clear c33
                                                    try clear c33b0
                                                    try clear p34
                                                    try clear q34
                                                    try clear hx35
                                                    try clear hf35
                                                    try clear c37
                                                    try clear c37b0
                                                    try clear c38
                                                    try clear c38b0
                                                    try clear q39
                                                    try clear c40
                                                    try clear c42
                                                    try clear c42b0
                                                    try clear c45
                                                    try clear c46
                                                    try clear c46b0
                                                    try clear c47
                                                    try clear c47b0
                                                    try clear p48
                                                    try clear q48
                                                    try clear hx48
                                                    try clear hf48
                                                    try clear c49
                                                    try clear c50
                                                    try clear c50b0
                                                    try clear p51
                                                    try clear q51
                                                    try clear hx51
                                                    try clear hf51
                                                    try clear c54
                                                    try clear hx153_0
                                                    try clear hx172_0
                                                    try clear hx173_0
                                                    try clear hx178_0
                                                    try clear hx48_0
                                                    try clear hx51_0
                                                    try clear p1
                                                    try clear p15
                                                    try clear p153
                                                    try clear p17
                                                    try clear p172
                                                    try clear p173
                                                    try clear p178
                                                    try clear p2
                                                    try clear p3
                                                    try clear p31
                                                    try clear p34
                                                    try clear p48
                                                    try clear p51
                                                    try clear p6
                                                    try clear q1
                                                    try clear q15
                                                    try clear q153
                                                    try clear q17
                                                    try clear q172
                                                    try clear q173
                                                    try clear q178
                                                    try clear q3
                                                    try clear q31
                                                    try clear q34
                                                    try clear q39
                                                    try clear q48
                                                    try clear q51
                                                    obtain ⟨x10_6, x17_6, rfl, HA, HK6, HO_10, HO_11, HO_12, HI159, HB⟩ := hrel
                                                    have hl10_6 := (Kd.R_reads' HO_10.out).1
                                                    rw [hl10_6] at HO_10
                                                    (try simp only [hl10_6])
                                                    (try simp only [hl10_6] at HO_11)
                                                    (try simp only [hl10_6] at HO_12)
                                                    have hl11_6 := (Kd.R_reads' HO_11.out).1
                                                    rw [hl11_6] at HO_11
                                                    (try simp only [hl11_6])
                                                    (try simp only [hl11_6] at HO_10)
                                                    (try simp only [hl11_6] at HO_12)
                                                    cases gk with
                                                    | zero => exact absurd HA.out (by simp [spec_CanPayFrom.l4])
                                                    | succ k6 =>
                                                      have H := HA.out
                                                      clear HA
                                                      simp only [spec_CanPayFrom.l4] at H
                                                      by_cases c58 : x17_6 < a0
                                                      · rw [if_pos c58] at H
                                                        have c58b0 : decide (x17_6 < a0) = true := decide_eq_true c58
                                                        clear c58
                                                        by_cases c59 : 0 ≤ x17_6
                                                        · rw [if_pos c59] at H
                                                          have c59b0 : decide (0 ≤ x17_6) = true := decide_eq_true c59
                                                          clear c59
                                                          by_cases c60 : x17_6 < (x10_6.length : Int)
                                                          · rw [if_pos c60] at H
                                                            have c60b0 : decide (x17_6 < (x10_6.length : Int)) = true := decide_eq_true c60
                                                            clear c60
                                                            by_cases c61 : 0 ≤ x14_3
                                                            · rw [if_pos c61] at H
                                                              have c61b0 : decide (0 ≤ x14_3) = true := decide_eq_true c61
                                                              clear c61
                                                              by_cases c62 : x14_3 < 16
                                                              · rw [if_pos c62] at H
                                                                have c62b0 : decide (x14_3 < 16) = true := decide_eq_true c62
                                                                clear c62
                                                                by_cases c64 : x17_6 < 16
                                                                · rw [if_pos c64] at H
                                                                  have c64b0 : decide (x17_6 < 16) = true := decide_eq_true c64
                                                                  clear c64
                                                                  obtain ⟨y181, hy181⟩ : ∃ y_ : List Int, y_ = (x10_6.set (x17_6 : Int).toNat (wrap64 ((rd x10_6 x17_6) + (Arr.vrd2 16 t158 x14_3 x17_6)))) := ⟨_, rfl⟩
                                                                  replace H : (if (wrap64 ((rd x10_6 x17_6) + (Arr.vrd2 16 t158 x14_3 x17_6))) > 100000000 then (some ((([] : List Int)), 3)) else (spec_CanPayFrom.l4 k6 a0 y181 y174 y175 true x14_3 (wrap64 (x17_6 + 1)) t158)) = some (r1, r2) := by first | (rw [hy181]; with_reducible exact H) | (have H2_ := (Option.bind_some _ _).symm.trans H; rw [hy181]; with_reducible exact H2_) | (have H2_ := (Option.bind_some _ _).symm.trans H; with_reducible exact H2_) | with_reducible exact H | (rw [hy181]; exact H) | exact H
                                                                  have Ny181 := Aside0.mk hy181
                                                                  clear hy181
                                                                  by_cases c69 : (wrap64 ((rd x10_6 x17_6) + (Arr.vrd2 16 t158 x14_3 x17_6))) > 100000000
                                                                  · rw [if_pos c69] at H
                                                                    have c69b0 : decide (100000000 < (wrap64 ((rd x10_6 x17_6) + (Arr.vrd2 16 t158 x14_3 x17_6)))) = true := decide_eq_true c69
                                                                    clear c69
                                                                    obtain ⟨y183, hy183⟩ : ∃ y_ : List Int, y_ = (([] : List Int)) := ⟨_, rfl⟩
                                                                    replace H : (some (y183, 3)) = some (r1, r2) := by first | (rw [hy183]; with_reducible exact H) | (have H2_ := (Option.bind_some _ _).symm.trans H; rw [hy183]; with_reducible exact H2_) | (have H2_ := (Option.bind_some _ _).symm.trans H; with_reducible exact H2_) | with_reducible exact H | (rw [hy183]; exact H) | exact H
                                                                    have Ny183 := Aside0.mk hy183
                                                                    clear hy183
                                                                    simp only [Option.some.injEq, Prod.mk.injEq] at H
                                                                    obtain ⟨rfl, rfl⟩ := H
                                                                    try go_wp2
                                                                    have n0_ := Aside0.mk (Kd.R_drew HO_10.out)
                                                                    have n1_ := Aside0.mk (Kd.R_drew HO_11.out)
                                                                    have n2_ := Aside0.mk (Kd.R_drew HO_12.out)
                                                                    have n3_ := Aside0.mk (IsS92.drew HI159.out)
                                                                    have n4_ := Aside0.mk (below_drew1 HB.out)
                                                                    clear HO_10
                                                                    clear HO_11
                                                                    clear HO_12
                                                                    clear HI159
                                                                    clear HB
                                                                    have HO_10 := n0_
                                                                    have HO_11 := n1_
                                                                    have HO_12 := n2_
                                                                    have HI159 := n3_
                                                                    have HB := n4_
                                                                    clear n0_ n1_ n2_ n3_ n4_
                                                                    have p180 : 0 ≤ (x17_6 : Int) := of_decide_eq_true (by first | (with_reducible assumption) | assumption)
                                                                    have q180 : x17_6 < (x10_6.length : Int) := of_decide_eq_true (by first | (with_reducible assumption) | assumption)
                                                                    obtain ⟨ad180, e180, hx180_0⟩ := Kd.at_int (Kd.R_reads' HO_10.out).2.2 x17_6 p180 q180
                                                                    obtain rfl : (⟨go51, 0, none⟩ : Addr) = ad180 := (by injection e180)
                                                                    (first | simp only [add_plain] at hx180_0 | simp only [add_at] at hx180_0 | simp only [Addr.add, Nat.zero_add] at hx180_0 | skip)
                                                                    replace p180 := eq_true p180
                                                                    replace q180 := eq_true q180
                                                                    have p63 : 0 ≤ (x14_3 : Int) := of_decide_eq_true (by first | (with_reducible assumption) | assumption)
                                                                    have q63 : (x14_3 : Int) < 16 := of_decide_eq_true (by first | (with_reducible assumption) | assumption)
                                                                    replace p63 := eq_true p63
                                                                    replace q63 := eq_true q63
                                                                    have p65 : 0 ≤ (x17_6 : Int) := of_decide_eq_true (by first | (with_reducible assumption) | assumption)
                                                                    have q65 : (x17_6 : Int) < 16 := of_decide_eq_true (by first | (with_reducible assumption) | assumption)
                                                                    replace p65 := eq_true p65
                                                                    replace q65 := eq_true q65
                                                                    have p67 : 0 ≤ (x17_6 : Int) := of_decide_eq_true (by first | (with_reducible assumption) | assumption)
                                                                    have q67 : (x17_6 : Int) < ((x10_6.length : Int) : Int) := of_decide_eq_true (by first | (with_reducible assumption) | assumption)
                                                                    obtain ⟨hx67_0, hf67_0⟩ := Kd.R_celln 0 HO_10.out (x17_6 : Int) p67 q67
                                                                    replace p67 := eq_true p67
                                                                    replace q67 := eq_true q67
                                                                    have HN159_go51 := Aside0.mk (show g159 ≠ go51 from by have h_ := IsS92.own_ne HI159.out HO_10.out (by decide); intro e_; exact h_ (by rw [e_]; rfl))
                                                                    have HP71 := Kd.R_putn HO_10.out (x17_6 : Int) (wrap64 ((rd x10_6 x17_6) + (Arr.vrd2 16 t158 x14_3 x17_6)))
                                                                    rw [← Ny181.out] at HP71
                                                                    have HQ71 := Aside0.mk HP71
                                                                    clear HP71
                                                                    refine start_ (n := 14) (S := fun w' => w'.cell? ⟨go51, (x17_6).toNat, none⟩ = some (.int .i64 (rd x10_6 x17_6)) ∧ w'.cell? ⟨g159, x14_3.toNat * 16 + x17_6.toNat, none⟩ = some (.int .i64 (Arr.vrd2 16 t158 x14_3 x17_6))) (ds := [13]) #[false, false, false, false, false, false, false, false, false, false, false, false, false, false] (by kernel_rfl) rfl rfl ⟨hx180_0, (Arr.cellN (off := 0) (l := (Arr.arL .i64 t158)) ((HI159.out).1) rfl (x14_3.toNat * 16 + x17_6.toNat) (x14_3.toNat * 16 + x17_6.toNat) (by omega) (by have a0_ := of_eq_true p63; have b0_ := of_eq_true q63; have a1_ := of_eq_true p65; have b1_ := of_eq_true q65; omega))⟩ (fun hHeld => ?_); refine with_tabW spec_CanPayFrom.tab33 spec_CanPayFrom.bits33 (fun HT_ HW_ => ?_)
                                                                    generalize wr.drew = w70 at HO_10 HO_11 HO_12 HI159 HB HQ71 hf67_0 hx180_0 hx67_0 hHeld ⊢
                                                                    refine pure_ (i := 0) (N := some 100) (v := ?_) (a' := ?_) #[true, false, false, false, false, false, false, false, false, false, false, false, false, false] rfl rfl (any_of HT_.out (by kernel_rfl)) (fun _ _ _ h => h) (Or.inl ⟨by rfl, ?_⟩) ?_ ?_
                                                                    rotate_left
                                                                    · intro w'
                                                                      go_simp
                                                                      with_reducible rfl
                                                                    rotate_left
                                                                    · simp only [Act.put, List.setIfInBounds_toArray, List.set_cons_zero, List.set_cons_succ, i64_w, i32_w]
                                                                      rfl
                                                                    refine pure_ (i := 1) (N := some 101) (v := ?_) (a' := ?_) #[true, true, false, false, false, false, false, false, false, false, false, false, false, false] rfl rfl (any_of HT_.out (by kernel_rfl)) (fun _ _ _ h => h) (Or.inl ⟨by rfl, ?_⟩) ?_ ?_
                                                                    rotate_left
                                                                    · intro w'
                                                                      go_simp
                                                                      with_reducible rfl
                                                                    rotate_left
                                                                    · simp only [Act.put, List.setIfInBounds_toArray, List.set_cons_zero, List.set_cons_succ, i64_w, i32_w]
                                                                      rfl
                                                                    refine pure_ (i := 2) (N := some 102) (v := ?_) (a' := ?_) #[true, true, true, false, false, false, false, false, false, false, false, false, false, false] rfl rfl (any_of HT_.out (by kernel_rfl)) (fun _ _ _ h => h) (Or.inl ⟨by rfl, ?_⟩) ?_ ?_
                                                                    rotate_left
                                                                    · intro w'
                                                                      go_simp
                                                                      with_reducible rfl
                                                                    rotate_left
                                                                    · simp only [Act.put, List.setIfInBounds_toArray, List.set_cons_zero, List.set_cons_succ, i64_w, i32_w]
                                                                      rfl
                                                                    refine pure_ (i := 4) (N := some 104) (v := ?_) (a' := ?_) #[true, true, true, false, true, false, false, false, false, false, false, false, false, false] rfl rfl (any_of HT_.out (by kernel_rfl)) (fun _ _ _ h => h) (Or.inl ⟨by rfl, ?_⟩) ?_ ?_
                                                                    rotate_left
                                                                    · intro w'
                                                                      go_simp
                                                                      with_reducible rfl
                                                                    rotate_left
                                                                    · simp only [Act.put, List.setIfInBounds_toArray, List.set_cons_zero, List.set_cons_succ, i64_w, i32_w]
                                                                      rfl
                                                                    refine pure_ (i := 5) (N := some 105) (v := ?_) (a' := ?_) #[true, true, true, false, true, true, false, false, false, false, false, false, false, false] rfl rfl (any_of HT_.out (by kernel_rfl)) (fun _ _ _ h => h) (Or.inl ⟨by rfl, ?_⟩) ?_ ?_
                                                                    rotate_left
                                                                    · intro w'
                                                                      go_simp
                                                                      with_reducible rfl
                                                                    rotate_left
                                                                    · simp only [Act.put, List.setIfInBounds_toArray, List.set_cons_zero, List.set_cons_succ, i64_w, i32_w]
                                                                      rfl
                                                                    refine pure_ (i := 6) (N := some 106) (v := ?_) (a' := ?_) #[true, true, true, false, true, true, true, false, false, false, false, false, false, false] rfl rfl (any_of HT_.out (by kernel_rfl)) (fun _ _ _ h => h) (Or.inl ⟨by rfl, ?_⟩) ?_ ?_
                                                                    rotate_left
                                                                    · intro w'
                                                                      go_simp
                                                                      with_reducible rfl
                                                                    rotate_left
                                                                    · simp only [Act.put, List.setIfInBounds_toArray, List.set_cons_zero, List.set_cons_succ, i64_w, i32_w]
                                                                      rfl
                                                                    refine pure_ (i := 7) (N := some 107) (v := ?_) (a' := ?_) #[true, true, true, false, true, true, true, true, false, false, false, false, false, false] rfl rfl (any_of HT_.out (by kernel_rfl)) (fun _ _ _ h => h) (Or.inl ⟨by rfl, ?_⟩) ?_ ?_
                                                                    rotate_left
                                                                    · intro w'
                                                                      go_simp
                                                                      with_reducible rfl
                                                                    rotate_left
                                                                    · simp only [Act.put, List.setIfInBounds_toArray, List.set_cons_zero, List.set_cons_succ, i64_w, i32_w]
                                                                      rfl
                                                                    refine pure_ (i := 8) (N := some 108) (v := ?_) (a' := ?_) #[true, true, true, false, true, true, true, true, true, false, false, false, false, false] rfl rfl (any_of HT_.out (by kernel_rfl)) (fun _ _ _ h => h) (Or.inl ⟨by rfl, ?_⟩) ?_ ?_
                                                                    rotate_left
                                                                    · intro w'
                                                                      go_simp
                                                                      with_reducible rfl
                                                                    rotate_left
                                                                    · simp only [Act.put, List.setIfInBounds_toArray, List.set_cons_zero, List.set_cons_succ, i64_w, i32_w]
                                                                      rfl
                                                                    refine pure_ (i := 9) (N := some 109) (v := ?_) (a' := ?_) #[true, true, true, false, true, true, true, true, true, true, false, false, false, false] rfl rfl (any_of HT_.out (by kernel_rfl)) (fun _ _ _ h => h) (Or.inl ⟨by rfl, ?_⟩) ?_ ?_
                                                                    rotate_left
                                                                    · intro w'
                                                                      go_simp
                                                                      with_reducible rfl
                                                                    rotate_left
                                                                    · simp only [Act.put, List.setIfInBounds_toArray, List.set_cons_zero, List.set_cons_succ, i64_w, i32_w]
                                                                      rfl
                                                                    refine take_ (i := 3) (N := some 103) (v := ?_) (a' := ?_) #[true, true, true, true, true, true, true, true, true, true, false, false, false, false] rfl rfl (take_ofW HT_.out HW_.out (by kernel_rfl)) (fun _ _ _ h => h) (Or.inl ⟨by rfl, ?_⟩) hHeld ?_ ?_
                                                                    rotate_left
                                                                    · rintro w' ⟨s0, s1⟩
                                                                      go_simp
                                                                      with_reducible rfl
                                                                    rotate_left
                                                                    · simp only [Act.put, List.setIfInBounds_toArray, List.set_cons_zero, List.set_cons_succ, i64_w, i32_w]
                                                                      rfl
                                                                    refine take_ (i := 10) (N := some 110) (v := ?_) (a' := ?_) #[true, true, true, true, true, true, true, true, true, true, true, false, false, false] rfl rfl (take_ofW HT_.out HW_.out (by kernel_rfl)) (fun _ _ _ h => h) (Or.inl ⟨by rfl, ?_⟩) hHeld ?_ ?_
                                                                    rotate_left
                                                                    · rintro w' ⟨s0, s1⟩
                                                                      go_simp
                                                                      with_reducible rfl
                                                                    rotate_left
                                                                    · simp only [Act.put, List.setIfInBounds_toArray, List.set_cons_zero, List.set_cons_succ, i64_w, i32_w]
                                                                      rfl
                                                                    refine pure_ (i := 11) (N := some 111) (v := ?_) (a' := ?_) #[true, true, true, true, true, true, true, true, true, true, true, true, false, false] rfl rfl (any_of HT_.out (by kernel_rfl)) (fun _ _ _ h => h) (Or.inl ⟨by rfl, ?_⟩) ?_ ?_
                                                                    rotate_left
                                                                    · intro w'
                                                                      go_simp
                                                                      with_reducible rfl
                                                                    rotate_left
                                                                    · simp only [Act.put, List.setIfInBounds_toArray, List.set_cons_zero, List.set_cons_succ, i64_w, i32_w]
                                                                      rfl
                                                                    refine pure_ (i := 12) (N := some 112) (v := ?_) (a' := ?_) #[true, true, true, true, true, true, true, true, true, true, true, true, true, false] rfl rfl (any_of HT_.out (by kernel_rfl)) (fun _ _ _ h => h) (Or.inl ⟨by rfl, ?_⟩) ?_ ?_
                                                                    rotate_left
                                                                    · intro w'
                                                                      go_simp
                                                                      with_reducible rfl
                                                                    rotate_left
                                                                    · simp only [Act.put, List.setIfInBounds_toArray, List.set_cons_zero, List.set_cons_succ, i64_w, i32_w]
                                                                      rfl
                                                                    refine last_ (i := 13) (N := none) #[true, true, true, true, true, true, true, true, true, true, true, true, true, true] rfl rfl (one_of HT_.out (by kernel_rfl)) (by decide) (fun K hK => ?_)
                                                                    refine skip_ (w1 := ?_) (by rfl) rfl ?_ ?_
                                                                    rotate_left
                                                                    · go_simp
                                                                      rfl
                                                                    refine hK.out _ _ ?_
                                                                    clear hK K
                                                                    refine done_ (done_of HT_.out (by kernel_rfl)) ?_
                                                                    have p68 : 0 ≤ (x17_6 : Int) := of_decide_eq_true (by first | (with_reducible assumption) | assumption)
                                                                    have q68 : (x17_6 : Int) < ((x10_6.length : Int) : Int) := of_decide_eq_true (by first | (with_reducible assumption) | assumption)
                                                                    replace p68 := eq_true p68
                                                                    replace q68 := eq_true q68
                                                                    try go_wp2_with (first | ((with_reducible refine gate_dst (N := 118) rfl ?_); refine Kd.R_lit (Kd.int .i64) _ 2 ?hg (N := 118) ?hd (xs := ([] : List Int)) (inner := []) (ok := fun _ => True) (okp := fun _ => True) ?hr ?hp (fun _ hk => hk) trivial (Below.refl _ _) (Nat.le_refl _) (by simp) ?_; (case hd => rfl); (case hg => rfl); (case hr => first | (go_simp; done) | (go_simp; rfl)); (case hp => exact (Reps.none _ _)); intro v184 w72 ho73 hb hg_ hnew_; clear hg_ hnew_; (first | rw [← Ny183.out] at ho73 | (simp only [Int.reduceToNat] at ho73; rw [← Ny183.out] at ho73)); have n0_ := Aside0.mk (Kd.R_elder' (by (with_reducible repeat (first | apply Kd.R_alloc | apply Kd.R_drewN | apply Kd.R_drew)); exact HQ71.out) (Kd.R_base ho73) hb); have n1_ := Aside0.mk (Kd.R_below (by (with_reducible repeat (first | apply Kd.R_alloc | apply Kd.R_drewN | apply Kd.R_drew)); exact (Kd.R_mono (Kd.R_far (p := ⟨go51, (x17_6 : Int).toNat, none⟩) (Arr.types_of HO_11.out HO_10.out (by decide)) (fun _ hk => hk.2) (.int .i64 (wrap64 ((rd x10_6 x17_6) + (Arr.vrd2 16 t158 x14_3 x17_6))))) (fun _ h_ => h_.1))) hb); have n2_ := Aside0.mk (Kd.R_elder' (by (with_reducible repeat (first | apply Kd.R_alloc | apply Kd.R_drewN | apply Kd.R_drew)); exact (Kd.R_mono (Kd.R_far (p := ⟨go51, (x17_6 : Int).toNat, none⟩) (Kd.R_mono HO_12.out (fun k_ hk => (⟨hk, fun e_ => hk (by rw [e_]; rfl)⟩ : _ ∧ k_ ≠ go51))) (fun _ hk => hk.2) (.int .i64 (wrap64 ((rd x10_6 x17_6) + (Arr.vrd2 16 t158 x14_3 x17_6))))) (fun _ h_ => h_.1))) (Kd.R_base ho73) hb); have n3_ := Aside0.mk (Kd.R_lower (Kd.R_new' (Kd.R_new' ho73 (Kd.R_lt (by (with_reducible repeat (first | apply Kd.R_alloc | apply Kd.R_drewN | apply Kd.R_drew)); exact HQ71.out))) (Kd.R_lt (by (with_reducible repeat (first | apply Kd.R_alloc | apply Kd.R_drewN | apply Kd.R_drew)); exact (Kd.R_mono (Kd.R_far (p := ⟨go51, (x17_6 : Int).toNat, none⟩) (Kd.R_mono HO_12.out (fun k_ hk => (⟨hk, fun e_ => hk (by rw [e_]; rfl)⟩ : _ ∧ k_ ≠ go51))) (fun _ hk => hk.2) (.int .i64 (wrap64 ((rd x10_6 x17_6) + (Arr.vrd2 16 t158 x14_3 x17_6))))) (fun _ h_ => h_.1))))) (below_size (by repeat (first | (with_reducible first | exact HB.out | apply below_alloc | apply pw_below_drewN | apply below_drew1 | refine below_set ?_ GB51.out | refine below_set ?_ (IsS92.ge HI159.out)) | exact HB.out)))); have n4_ := Aside0.mk (IsS92.below (show IsS92 w (w70.setCell ⟨go51, (x17_6 : Int).toNat, none⟩ (.int .i64 (wrap64 ((rd x10_6 x17_6) + (Arr.vrd2 16 t158 x14_3 x17_6))))) g159 t158 from by repeat (first | (with_reducible first | exact HI159.out | apply IsS92.alloc | apply IsS92.drewN | apply IsS92.drew | apply IsS92.set_0 | refine IsS92.far ?_ HN159_go51.out _) | exact HI159.out)) hb); have n5_ := Aside0.mk (below_step (by repeat (first | (with_reducible first | exact HB.out | apply below_alloc | apply pw_below_drewN | apply below_drew1 | refine below_set ?_ GB51.out | refine below_set ?_ (IsS92.ge HI159.out)) | exact HB.out)) hb); clear HO_10; clear HO_11; clear HO_12; clear HI159; clear HB; have HO_10 := n0_; have HO_11 := n1_; have HO_12 := n2_; have HO185 := n3_; have HI159 := n4_; have HB := n5_; clear n0_ n1_ n2_ n3_ n4_ n5_; clear hb ho73))
                                                                    go_ret2
                                                                    exact ⟨_, by first | rfl | (simp [errW_none, errW_some] <;> rfl) | (simp [*, errW_none, errW_some] <;> rfl), by (with_reducible repeat (first | apply Kd.R_alloc | apply Kd.R_drewN | apply Kd.R_drew)); exact Kd.R_mono HO185.out (fun _ hk => trivial), by repeat (first | (with_reducible first | exact HB.out | apply below_alloc | apply pw_below_drewN | apply below_drew1 | refine below_set ?_ (IsS92.ge HI159.out)) | exact HB.out)⟩
                                                                  · rw [if_neg c69] at H
                                                                    have c69b0 : decide (100000000 < (wrap64 ((rd x10_6 x17_6) + (Arr.vrd2 16 t158 x14_3 x17_6)))) = false := decide_eq_false c69
                                                                    clear c69
                                                                    have H' := Aside0.mk H
                                                                    clear H
                                                                    try go_wp2
                                                                    have n0_ := Aside0.mk (Kd.R_drew HO_10.out)
                                                                    have n1_ := Aside0.mk (Kd.R_drew HO_11.out)
                                                                    have n2_ := Aside0.mk (Kd.R_drew HO_12.out)
                                                                    have n3_ := Aside0.mk (IsS92.drew HI159.out)
                                                                    have n4_ := Aside0.mk (below_drew1 HB.out)
                                                                    clear HO_10
                                                                    clear HO_11
                                                                    clear HO_12
                                                                    clear HI159
                                                                    clear HB
                                                                    have HO_10 := n0_
                                                                    have HO_11 := n1_
                                                                    have HO_12 := n2_
                                                                    have HI159 := n3_
                                                                    have HB := n4_
                                                                    clear n0_ n1_ n2_ n3_ n4_
                                                                    have p180 : 0 ≤ (x17_6 : Int) := of_decide_eq_true (by first | (with_reducible assumption) | assumption)
                                                                    have q180 : x17_6 < (x10_6.length : Int) := of_decide_eq_true (by first | (with_reducible assumption) | assumption)
                                                                    obtain ⟨ad180, e180, hx180_0⟩ := Kd.at_int (Kd.R_reads' HO_10.out).2.2 x17_6 p180 q180
                                                                    obtain rfl : (⟨go51, 0, none⟩ : Addr) = ad180 := (by injection e180)
                                                                    (first | simp only [add_plain] at hx180_0 | simp only [add_at] at hx180_0 | simp only [Addr.add, Nat.zero_add] at hx180_0 | skip)
                                                                    replace p180 := eq_true p180
                                                                    replace q180 := eq_true q180
                                                                    have p63 : 0 ≤ (x14_3 : Int) := of_decide_eq_true (by first | (with_reducible assumption) | assumption)
                                                                    have q63 : (x14_3 : Int) < 16 := of_decide_eq_true (by first | (with_reducible assumption) | assumption)
                                                                    replace p63 := eq_true p63
                                                                    replace q63 := eq_true q63
                                                                    have p65 : 0 ≤ (x17_6 : Int) := of_decide_eq_true (by first | (with_reducible assumption) | assumption)
                                                                    have q65 : (x17_6 : Int) < 16 := of_decide_eq_true (by first | (with_reducible assumption) | assumption)
                                                                    replace p65 := eq_true p65
                                                                    replace q65 := eq_true q65
                                                                    have p67 : 0 ≤ (x17_6 : Int) := of_decide_eq_true (by first | (with_reducible assumption) | assumption)
                                                                    have q67 : (x17_6 : Int) < ((x10_6.length : Int) : Int) := of_decide_eq_true (by first | (with_reducible assumption) | assumption)
                                                                    obtain ⟨hx67_0, hf67_0⟩ := Kd.R_celln 0 HO_10.out (x17_6 : Int) p67 q67
                                                                    replace p67 := eq_true p67
                                                                    replace q67 := eq_true q67
                                                                    have HN159_go51 := Aside0.mk (show g159 ≠ go51 from by have h_ := IsS92.own_ne HI159.out HO_10.out (by decide); intro e_; exact h_ (by rw [e_]; rfl))
                                                                    have HP75 := Kd.R_putn HO_10.out (x17_6 : Int) (wrap64 ((rd x10_6 x17_6) + (Arr.vrd2 16 t158 x14_3 x17_6)))
                                                                    rw [← Ny181.out] at HP75
                                                                    have HQ75 := Aside0.mk HP75
                                                                    clear HP75
                                                                    refine start_ (n := 14) (S := fun w' => w'.cell? ⟨go51, (x17_6).toNat, none⟩ = some (.int .i64 (rd x10_6 x17_6)) ∧ w'.cell? ⟨g159, x14_3.toNat * 16 + x17_6.toNat, none⟩ = some (.int .i64 (Arr.vrd2 16 t158 x14_3 x17_6))) (ds := [13]) #[false, false, false, false, false, false, false, false, false, false, false, false, false, false] (by kernel_rfl) rfl rfl ⟨hx180_0, (Arr.cellN (off := 0) (l := (Arr.arL .i64 t158)) ((HI159.out).1) rfl (x14_3.toNat * 16 + x17_6.toNat) (x14_3.toNat * 16 + x17_6.toNat) (by omega) (by have a0_ := of_eq_true p63; have b0_ := of_eq_true q63; have a1_ := of_eq_true p65; have b1_ := of_eq_true q65; omega))⟩ (fun hHeld => ?_); refine with_tabW spec_CanPayFrom.tab33 spec_CanPayFrom.bits33 (fun HT_ HW_ => ?_)
                                                                    generalize wr.drew = w74 at HO_10 HO_11 HO_12 HI159 HB HQ75 hf67_0 hx180_0 hx67_0 hHeld ⊢
                                                                    refine pure_ (i := 0) (N := some 100) (v := ?_) (a' := ?_) #[true, false, false, false, false, false, false, false, false, false, false, false, false, false] rfl rfl (any_of HT_.out (by kernel_rfl)) (fun _ _ _ h => h) (Or.inl ⟨by rfl, ?_⟩) ?_ ?_
                                                                    rotate_left
                                                                    · intro w'
                                                                      go_simp
                                                                      with_reducible rfl
                                                                    rotate_left
                                                                    · simp only [Act.put, List.setIfInBounds_toArray, List.set_cons_zero, List.set_cons_succ, i64_w, i32_w]
                                                                      rfl
                                                                    refine pure_ (i := 1) (N := some 101) (v := ?_) (a' := ?_) #[true, true, false, false, false, false, false, false, false, false, false, false, false, false] rfl rfl (any_of HT_.out (by kernel_rfl)) (fun _ _ _ h => h) (Or.inl ⟨by rfl, ?_⟩) ?_ ?_
                                                                    rotate_left
                                                                    · intro w'
                                                                      go_simp
                                                                      with_reducible rfl
                                                                    rotate_left
                                                                    · simp only [Act.put, List.setIfInBounds_toArray, List.set_cons_zero, List.set_cons_succ, i64_w, i32_w]
                                                                      rfl
                                                                    refine pure_ (i := 2) (N := some 102) (v := ?_) (a' := ?_) #[true, true, true, false, false, false, false, false, false, false, false, false, false, false] rfl rfl (any_of HT_.out (by kernel_rfl)) (fun _ _ _ h => h) (Or.inl ⟨by rfl, ?_⟩) ?_ ?_
                                                                    rotate_left
                                                                    · intro w'
                                                                      go_simp
                                                                      with_reducible rfl
                                                                    rotate_left
                                                                    · simp only [Act.put, List.setIfInBounds_toArray, List.set_cons_zero, List.set_cons_succ, i64_w, i32_w]
                                                                      rfl
                                                                    refine pure_ (i := 4) (N := some 104) (v := ?_) (a' := ?_) #[true, true, true, false, true, false, false, false, false, false, false, false, false, false] rfl rfl (any_of HT_.out (by kernel_rfl)) (fun _ _ _ h => h) (Or.inl ⟨by rfl, ?_⟩) ?_ ?_
                                                                    rotate_left
                                                                    · intro w'
                                                                      go_simp
                                                                      with_reducible rfl
                                                                    rotate_left
                                                                    · simp only [Act.put, List.setIfInBounds_toArray, List.set_cons_zero, List.set_cons_succ, i64_w, i32_w]
                                                                      rfl
                                                                    refine pure_ (i := 5) (N := some 105) (v := ?_) (a' := ?_) #[true, true, true, false, true, true, false, false, false, false, false, false, false, false] rfl rfl (any_of HT_.out (by kernel_rfl)) (fun _ _ _ h => h) (Or.inl ⟨by rfl, ?_⟩) ?_ ?_
                                                                    rotate_left
                                                                    · intro w'
                                                                      go_simp
                                                                      with_reducible rfl
                                                                    rotate_left
                                                                    · simp only [Act.put, List.setIfInBounds_toArray, List.set_cons_zero, List.set_cons_succ, i64_w, i32_w]
                                                                      rfl
                                                                    refine pure_ (i := 6) (N := some 106) (v := ?_) (a' := ?_) #[true, true, true, false, true, true, true, false, false, false, false, false, false, false] rfl rfl (any_of HT_.out (by kernel_rfl)) (fun _ _ _ h => h) (Or.inl ⟨by rfl, ?_⟩) ?_ ?_
                                                                    rotate_left
                                                                    · intro w'
                                                                      go_simp
                                                                      with_reducible rfl
                                                                    rotate_left
                                                                    · simp only [Act.put, List.setIfInBounds_toArray, List.set_cons_zero, List.set_cons_succ, i64_w, i32_w]
                                                                      rfl
                                                                    refine pure_ (i := 7) (N := some 107) (v := ?_) (a' := ?_) #[true, true, true, false, true, true, true, true, false, false, false, false, false, false] rfl rfl (any_of HT_.out (by kernel_rfl)) (fun _ _ _ h => h) (Or.inl ⟨by rfl, ?_⟩) ?_ ?_
                                                                    rotate_left
                                                                    · intro w'
                                                                      go_simp
                                                                      with_reducible rfl
                                                                    rotate_left
                                                                    · simp only [Act.put, List.setIfInBounds_toArray, List.set_cons_zero, List.set_cons_succ, i64_w, i32_w]
                                                                      rfl
                                                                    refine pure_ (i := 8) (N := some 108) (v := ?_) (a' := ?_) #[true, true, true, false, true, true, true, true, true, false, false, false, false, false] rfl rfl (any_of HT_.out (by kernel_rfl)) (fun _ _ _ h => h) (Or.inl ⟨by rfl, ?_⟩) ?_ ?_
                                                                    rotate_left
                                                                    · intro w'
                                                                      go_simp
                                                                      with_reducible rfl
                                                                    rotate_left
                                                                    · simp only [Act.put, List.setIfInBounds_toArray, List.set_cons_zero, List.set_cons_succ, i64_w, i32_w]
                                                                      rfl
                                                                    refine pure_ (i := 9) (N := some 109) (v := ?_) (a' := ?_) #[true, true, true, false, true, true, true, true, true, true, false, false, false, false] rfl rfl (any_of HT_.out (by kernel_rfl)) (fun _ _ _ h => h) (Or.inl ⟨by rfl, ?_⟩) ?_ ?_
                                                                    rotate_left
                                                                    · intro w'
                                                                      go_simp
                                                                      with_reducible rfl
                                                                    rotate_left
                                                                    · simp only [Act.put, List.setIfInBounds_toArray, List.set_cons_zero, List.set_cons_succ, i64_w, i32_w]
                                                                      rfl
                                                                    refine take_ (i := 3) (N := some 103) (v := ?_) (a' := ?_) #[true, true, true, true, true, true, true, true, true, true, false, false, false, false] rfl rfl (take_ofW HT_.out HW_.out (by kernel_rfl)) (fun _ _ _ h => h) (Or.inl ⟨by rfl, ?_⟩) hHeld ?_ ?_
                                                                    rotate_left
                                                                    · rintro w' ⟨s0, s1⟩
                                                                      go_simp
                                                                      with_reducible rfl
                                                                    rotate_left
                                                                    · simp only [Act.put, List.setIfInBounds_toArray, List.set_cons_zero, List.set_cons_succ, i64_w, i32_w]
                                                                      rfl
                                                                    refine take_ (i := 10) (N := some 110) (v := ?_) (a' := ?_) #[true, true, true, true, true, true, true, true, true, true, true, false, false, false] rfl rfl (take_ofW HT_.out HW_.out (by kernel_rfl)) (fun _ _ _ h => h) (Or.inl ⟨by rfl, ?_⟩) hHeld ?_ ?_
                                                                    rotate_left
                                                                    · rintro w' ⟨s0, s1⟩
                                                                      go_simp
                                                                      with_reducible rfl
                                                                    rotate_left
                                                                    · simp only [Act.put, List.setIfInBounds_toArray, List.set_cons_zero, List.set_cons_succ, i64_w, i32_w]
                                                                      rfl
                                                                    refine pure_ (i := 11) (N := some 111) (v := ?_) (a' := ?_) #[true, true, true, true, true, true, true, true, true, true, true, true, false, false] rfl rfl (any_of HT_.out (by kernel_rfl)) (fun _ _ _ h => h) (Or.inl ⟨by rfl, ?_⟩) ?_ ?_
                                                                    rotate_left
                                                                    · intro w'
                                                                      go_simp
                                                                      with_reducible rfl
                                                                    rotate_left
                                                                    · simp only [Act.put, List.setIfInBounds_toArray, List.set_cons_zero, List.set_cons_succ, i64_w, i32_w]
                                                                      rfl
                                                                    refine pure_ (i := 12) (N := some 112) (v := ?_) (a' := ?_) #[true, true, true, true, true, true, true, true, true, true, true, true, true, false] rfl rfl (any_of HT_.out (by kernel_rfl)) (fun _ _ _ h => h) (Or.inl ⟨by rfl, ?_⟩) ?_ ?_
                                                                    rotate_left
                                                                    · intro w'
                                                                      go_simp
                                                                      with_reducible rfl
                                                                    rotate_left
                                                                    · simp only [Act.put, List.setIfInBounds_toArray, List.set_cons_zero, List.set_cons_succ, i64_w, i32_w]
                                                                      rfl
                                                                    refine last_ (i := 13) (N := none) #[true, true, true, true, true, true, true, true, true, true, true, true, true, true] rfl rfl (one_of HT_.out (by kernel_rfl)) (by decide) (fun K hK => ?_)
                                                                    refine skip_ (w1 := ?_) (by rfl) rfl ?_ ?_
                                                                    rotate_left
                                                                    · go_simp
                                                                      rfl
                                                                    refine hK.out _ _ ?_
                                                                    clear hK K
                                                                    refine done_ (done_of HT_.out (by kernel_rfl)) ?_
                                                                    have p68 : 0 ≤ (x17_6 : Int) := of_decide_eq_true (by first | (with_reducible assumption) | assumption)
                                                                    have q68 : (x17_6 : Int) < ((x10_6.length : Int) : Int) := of_decide_eq_true (by first | (with_reducible assumption) | assumption)
                                                                    replace p68 := eq_true p68
                                                                    replace q68 := eq_true q68
                                                                    try go_wp2
                                                                    (try simp only [← hl10_6, ← hl11_6])
                                                                    go_roundg k6
                                                                    case measure => have := HK1.out; have := HK2.out; have := HK3.out; have := HK4.out; have := HJ35.out; have := HK6.out; omega
                                                                    case rel => exact ⟨(y181), (wrap64 (x17_6 + 1)), (by first | rfl | (simp; done) | (simp [*]; done)), H', ⟨by have := HK1.out; have := HK2.out; have := HK3.out; have := HK4.out; have := HJ35.out; have := HK6.out; omega⟩, ⟨by (try simp only [hl10_6]); (try simp only [hl11_6]); (with_reducible repeat (first | apply Kd.R_alloc | apply Kd.R_drewN | apply Kd.R_drew)); exact HQ75.out⟩, ⟨by (try simp only [hl10_6]); (try simp only [hl11_6]); (with_reducible repeat (first | apply Kd.R_alloc | apply Kd.R_drewN | apply Kd.R_drew)); exact Kd.R_mono (Kd.R_far (p := ⟨go51, (x17_6 : Int).toNat, none⟩) (Arr.types_of HO_11.out HO_10.out (by decide)) (fun _ hk => hk.2) (.int .i64 (wrap64 ((rd x10_6 x17_6) + (Arr.vrd2 16 t158 x14_3 x17_6))))) (fun _ hk => trivial)⟩, ⟨by (try simp only [hl10_6]); (try simp only [hl11_6]); (with_reducible repeat (first | apply Kd.R_alloc | apply Kd.R_drewN | apply Kd.R_drew)); exact Kd.R_mono (Kd.R_far (p := ⟨go51, (x17_6 : Int).toNat, none⟩) (Kd.R_mono HO_12.out (fun k_ hk => (⟨hk, fun e_ => hk (by rw [e_]; rfl)⟩ : _ ∧ k_ ≠ go51))) (fun _ hk => hk.2) (.int .i64 (wrap64 ((rd x10_6 x17_6) + (Arr.vrd2 16 t158 x14_3 x17_6))))) (fun _ hk => hk.1)⟩, ⟨by repeat (first | (with_reducible first | exact HI159.out | apply IsS92.alloc | apply IsS92.drewN | apply IsS92.drew | apply IsS92.set_0 | refine IsS92.far ?_ HN159_go51.out _) | exact HI159.out)⟩, ⟨by repeat (first | (with_reducible first | exact HB.out | apply below_alloc | apply pw_below_drewN | apply below_drew1 | refine below_set ?_ GB51.out | refine below_set ?_ (IsS92.ge HI159.out)) | exact HB.out)⟩⟩
                                                                · rw [if_neg c64] at H
                                                                  exact absurd H (by simp)
                                                              · rw [if_neg c62] at H
                                                                exact absurd H (by simp)
                                                            · rw [if_neg c61] at H
                                                              exact absurd H (by simp)
                                                          · rw [if_neg c60] at H
                                                            exact absurd H (by simp)
                                                        · rw [if_neg c59] at H
                                                          exact absurd H (by simp)
                                                      · rw [if_neg c58] at H
                                                        have c58b0 : decide (x17_6 < a0) = false := decide_eq_false c58
                                                        clear c58
                                                        have H' := Aside0.mk H
                                                        clear H
                                                        go_wp2
                                                        (try simp only [← hl10_6, ← hl11_6])
                                                        go_roundg k6
                                                        case measure => have := HK1.out; have := HK2.out; have := HK3.out; have := HK4.out; have := HJ35.out; have := HK6.out; omega
                                                        case rel => exact ⟨(x10_6), (y174), (y175), (true), (wrap64 (x14_3 + 1)), (by first | rfl | (simp; done) | (simp [*]; done)), (by first | rfl | (simp; done) | (simp [*]; done)), H', ⟨by have := HK1.out; have := HK2.out; have := HK3.out; have := HK4.out; have := HJ35.out; have := HK6.out; omega⟩, ⟨by (try simp only [hl10_6]); (try simp only [hl11_6]); (with_reducible repeat (first | apply Kd.R_alloc | apply Kd.R_drewN | apply Kd.R_drew)); exact HO_10.out⟩, ⟨by (try simp only [hl10_6]); (try simp only [hl11_6]); (with_reducible repeat (first | apply Kd.R_alloc | apply Kd.R_drewN | apply Kd.R_drew)); exact HO_11.out⟩, ⟨by (try simp only [hl10_6]); (try simp only [hl11_6]); (with_reducible repeat (first | apply Kd.R_alloc | apply Kd.R_drewN | apply Kd.R_drew)); exact HO_12.out⟩, ⟨by repeat (first | (with_reducible first | exact HI159.out | apply IsS92.alloc | apply IsS92.drewN | apply IsS92.drew | apply IsS92.set_0) | exact HI159.out)⟩, ⟨by repeat (first | (with_reducible first | exact HB.out | apply below_alloc | apply pw_below_drewN | apply below_drew1 | refine below_set ?_ (IsS92.ge HI159.out)) | exact HB.out)⟩⟩
                                                · rw [if_neg c50] at H
                                                  exact absurd H (by simp)
                                              · rw [if_neg c49] at H
                                                exact absurd H (by simp)
                                            · rw [if_neg c47] at H
                                              exact absurd H (by simp)
                                          · rw [if_neg c46] at H
                                            exact absurd H (by simp)
                            · rw [if_neg c27] at H
                              have c27b0 : decide (x14_3 < a0) = false := decide_eq_false c27
                              clear c27
                              have H' := Aside0.mk H
                              clear H
                              go_wp2
                              go_roundg k3
                              case measure => have := HK1.out; have := HK2.out; have := HK3.out; omega
                              case rel => exact ⟨(x10_3), (x11_3), (x12_3), (x13_3), (by first | rfl | (simp; done) | (simp [*]; done)), H', ⟨by have := HK1.out; have := HK2.out; have := HK3.out; omega⟩, ⟨by (with_reducible repeat (first | apply Kd.R_alloc | apply Kd.R_drewN | apply Kd.R_drew)); exact HO_10.out⟩, ⟨by (with_reducible repeat (first | apply Kd.R_alloc | apply Kd.R_drewN | apply Kd.R_drew)); exact HO_11.out⟩, ⟨by (with_reducible repeat (first | apply Kd.R_alloc | apply Kd.R_drewN | apply Kd.R_drew)); exact HO_12.out⟩, ⟨by repeat (first | (with_reducible first | exact HI159.out | apply IsS92.alloc | apply IsS92.drewN | apply IsS92.drew | apply IsS92.set_0) | exact HI159.out)⟩, ⟨by repeat (first | (with_reducible first | exact HB.out | apply below_alloc | apply pw_below_drewN | apply below_drew1 | refine below_set ?_ (IsS92.ge HI159.out)) | exact HB.out)⟩⟩
                      · replace c26 := Bool.eq_false_iff.mpr c26
                        subst c26
                        have H1 : (some (x12_2, 0)) = some (r1, r2) := by rw [if_neg (show ¬ (false = true) by decide)] at H; exact H
                        clear H
                        have H := H1
                        clear H1
                        simp only [Option.some.injEq, Prod.mk.injEq] at H
                        obtain ⟨rfl, rfl⟩ := H
                        go_wp2
                        go_ret2
                        exact ⟨_, by first | rfl | (simp [errW_none, errW_some] <;> rfl) | (simp [*, errW_none, errW_some] <;> rfl), by (with_reducible repeat (first | apply Kd.R_alloc | apply Kd.R_drewN | apply Kd.R_drew)); exact Kd.R_mono HO_12.out (fun _ hk => trivial), by repeat (first | (with_reducible first | exact HB.out | apply below_alloc | apply pw_below_drewN | apply below_drew1 | refine below_set ?_ (IsS92.ge HI159.out)) | exact HB.out)⟩
                · rw [if_neg c17] at H
                  exact absurd H (by simp)
              · rw [if_neg c16] at H
                exact absurd H (by simp)
            · rw [if_neg c15] at H
              exact absurd H (by simp)
    · rw [if_neg c6] at H
      have c6b0 : ((l2.length : Int) == a0) = false := beq_eq_false_iff_ne.mpr c6
      have c6b1 : ((l2.length : Int) != a0) = true := bne_iff_ne.mpr c6
      obtain ⟨y150, hy150⟩ : ∃ y_ : List Int, y_ = (([] : List Int)) := ⟨_, rfl⟩
      replace H : (some (y150, 2)) = some (r1, r2) := by first | (rw [hy150]; with_reducible exact H) | (have H2_ := (Option.bind_some _ _).symm.trans H; rw [hy150]; with_reducible exact H2_) | (have H2_ := (Option.bind_some _ _).symm.trans H; with_reducible exact H2_) | with_reducible exact H | (rw [hy150]; exact H) | exact H
      have Ny150 := Aside0.mk hy150
      clear hy150
      simp only [Option.some.injEq, Prod.mk.injEq] at H
      obtain ⟨rfl, rfl⟩ := H
      go_enter Try.func42, Try.ntmps42
      go_wp2_with (first | ((with_reducible refine gate_callee (f := 59) rfl ?_); refine goesL_ (some 20) rfl rfl Try.func59 (by kernel_rfl) rfl #[.int .i64 a0, .slice A1 l1.length c1] rfl (by (try simp only [List.map_toArray, List.map_cons, List.map_nil]); first | done | (go_simp; done) | rfl | (simp only [List.length_drop, List.length_take]; rfl)) ?_; (with_reducible refine (spec_l02Ok.calls k a0 _ _ l1 true _ ?side1 ?side2 A4.out).mono ?_); (case side1 => repeat (first | exact HR1.out | (with_reducible refine Kd.C_alloc ?_ _) | (with_reducible refine Kd.C_drewN ?_ _) | (with_reducible refine Kd.C_drew ?_))); (case side2 => exact HC1.out); rintro e w76 ⟨rfl, hb⟩; refine ⟨_, rfl, ?_⟩; have n0_ := Aside0.mk (below_step (by repeat (first | (with_reducible first | exact HB.out | apply below_alloc | apply pw_below_drewN | apply below_drew1) | exact HB.out)) hb); clear HB; have HB := n0_; clear n0_; (try clear hb); (try clear hb2); (try clear hk); (try clear hi)) | ((with_reducible refine gate_dst (N := 27) rfl ?_); refine Kd.R_lit (Kd.int .i64) _ 2 ?hg (N := 27) ?hd (xs := ([] : List Int)) (inner := []) (ok := fun _ => True) (okp := fun _ => True) ?hr ?hp (fun _ hk => hk) trivial (Below.refl _ _) (Nat.le_refl _) (by simp) ?_; (case hd => rfl); (case hg => rfl); (case hr => first | (go_simp; done) | (go_simp; rfl)); (case hp => exact (Reps.none _ _)); intro v151 w77 ho78 hb hg_ hnew_; clear hg_ hnew_; (first | rw [← Ny150.out] at ho78 | (simp only [Int.reduceToNat] at ho78; rw [← Ny150.out] at ho78)); have n0_ := Aside0.mk (Kd.R_lower ho78 (below_size (by repeat (first | (with_reducible first | exact HB.out | apply below_alloc | apply pw_below_drewN | apply below_drew1) | exact HB.out)))); have n1_ := Aside0.mk (below_step (by repeat (first | (with_reducible first | exact HB.out | apply below_alloc | apply pw_below_drewN | apply below_drew1) | exact HB.out)) hb); clear HB; have HO152 := n0_; have HB := n1_; clear n0_ n1_; clear hb ho78))
      go_ret2
      exact ⟨_, by first | rfl | (simp [errW_none, errW_some] <;> rfl) | (simp [*, errW_none, errW_some] <;> rfl), by (with_reducible repeat (first | apply Kd.R_alloc | apply Kd.R_drewN | apply Kd.R_drew)); exact HO152.out, by repeat (first | (with_reducible first | exact HB.out | apply below_alloc | apply pw_below_drewN | apply below_drew1) | exact HB.out)⟩
  · replace c5 := Bool.eq_false_iff.mpr c5
    subst c5
    have H1 : (some ((([] : List Int)), 1)) = some (r1, r2) := by rw [if_neg (show ¬ (false = true) by decide)] at H; exact H
    clear H
    have H := H1
    clear H1
    obtain ⟨y147, hy147⟩ : ∃ y_ : List Int, y_ = (([] : List Int)) := ⟨_, rfl⟩
    replace H : (some (y147, 1)) = some (r1, r2) := by first | (rw [hy147]; with_reducible exact H) | (have H2_ := (Option.bind_some _ _).symm.trans H; rw [hy147]; with_reducible exact H2_) | (have H2_ := (Option.bind_some _ _).symm.trans H; with_reducible exact H2_) | with_reducible exact H | (rw [hy147]; exact H) | exact H
    have Ny147 := Aside0.mk hy147
    clear hy147
    simp only [Option.some.injEq, Prod.mk.injEq] at H
    obtain ⟨rfl, rfl⟩ := H
    go_enter Try.func42, Try.ntmps42
    go_wp2_with (first | ((with_reducible refine gate_callee (f := 59) rfl ?_); refine goesL_ (some 20) rfl rfl Try.func59 (by kernel_rfl) rfl #[.int .i64 a0, .slice A1 l1.length c1] rfl (by (try simp only [List.map_toArray, List.map_cons, List.map_nil]); first | done | (go_simp; done) | rfl | (simp only [List.length_drop, List.length_take]; rfl)) ?_; (with_reducible refine (spec_l02Ok.calls k a0 _ _ l1 false _ ?side1 ?side2 A4.out).mono ?_); (case side1 => repeat (first | exact HR1.out | (with_reducible refine Kd.C_alloc ?_ _) | (with_reducible refine Kd.C_drewN ?_ _) | (with_reducible refine Kd.C_drew ?_))); (case side2 => exact HC1.out); rintro e w79 ⟨rfl, hb⟩; refine ⟨_, rfl, ?_⟩; have n0_ := Aside0.mk (below_step (by repeat (first | (with_reducible first | exact HB.out | apply below_alloc | apply pw_below_drewN | apply below_drew1) | exact HB.out)) hb); clear HB; have HB := n0_; clear n0_; (try clear hb); (try clear hb2); (try clear hk); (try clear hi)) | ((with_reducible refine gate_dst (N := 22) rfl ?_); refine Kd.R_lit (Kd.int .i64) _ 2 ?hg (N := 22) ?hd (xs := ([] : List Int)) (inner := []) (ok := fun _ => True) (okp := fun _ => True) ?hr ?hp (fun _ hk => hk) trivial (Below.refl _ _) (Nat.le_refl _) (by simp) ?_; (case hd => rfl); (case hg => rfl); (case hr => first | (go_simp; done) | (go_simp; rfl)); (case hp => exact (Reps.none _ _)); intro v148 w80 ho81 hb hg_ hnew_; clear hg_ hnew_; (first | rw [← Ny147.out] at ho81 | (simp only [Int.reduceToNat] at ho81; rw [← Ny147.out] at ho81)); have n0_ := Aside0.mk (Kd.R_lower ho81 (below_size (by repeat (first | (with_reducible first | exact HB.out | apply below_alloc | apply pw_below_drewN | apply below_drew1) | exact HB.out)))); have n1_ := Aside0.mk (below_step (by repeat (first | (with_reducible first | exact HB.out | apply below_alloc | apply pw_below_drewN | apply below_drew1) | exact HB.out)) hb); clear HB; have HO149 := n0_; have HB := n1_; clear n0_ n1_; clear hb ho81))
    go_ret2
    exact ⟨_, by first | rfl | (simp [errW_none, errW_some] <;> rfl) | (simp [*, errW_none, errW_some] <;> rfl), by (with_reducible repeat (first | apply Kd.R_alloc | apply Kd.R_drewN | apply Kd.R_drew)); exact HO149.out, by repeat (first | (with_reducible first | exact HB.out | apply below_alloc | apply pw_below_drewN | apply below_drew1) | exact HB.out)⟩

end Go.Proofs.Ytofcgkcpkngocaa.MCanPayFrom
