-- by a program of this session, for this claim
import Derived.Test.YtofcgkcpkngocaaMCirclesx0
import Derived.Test.YtofcgkcpkngocaaMCirclesx3
namespace Go.Proofs.Ytofcgkcpkngocaa.MCircles
open Go.RowKit Go.Proofs.YtofcgkcpkngocaaW.PrintWords Go.Proofs.YtofcgkcpkngocaaW.PrintLast Go.Proofs.YtofcgkcpkngocaaW.PrintMore
attribute [local go_sem] max2_int min2_int max_two min_two max_three min_three max_four min_four   -- for this text's walks alone
set_option linter.unusedVariables false
set_option linter.unusedSimpArgs false

/-! ### spec_l02Ok: function 59 -/
mutual
def spec_l02Ok.j0 : Nat → Int → List (S65) → Bool → Option (Bool)
  | 0, _, _, _ => none
  | k + 1, x0, x1, x14 => if x14 = true then (some false) else (spec_l02Ok.l0 k x0 x1 0)
def spec_l02Ok.l0 : Nat → Int → List (S65) → Int → Option (Bool)
  | 0, _, _, _ => none
  | k + 1, x0, x1, x5 => if x5 < (x1.length : Int) then (if 0 ≤ x5 then ((spec_l02Person.f x0 ((rd_T65 x1 x5).f0)).bind fun t125 => (if t125 = true then ((spec_l02Person.f x0 ((rd_T65 x1 x5).f1)).bind fun t127 => (if t127 = true then (if ((rd_T65 x1 x5).f0) = ((rd_T65 x1 x5).f1) then (some false) else ((spec_l00In.f ((rd_T65 x1 x5).f2) 1 100000000).bind fun t131 => (if t131 = true then (spec_l02Ok.l0 k x0 x1 (wrap64 (x5 + 1))) else (some false)))) else (some false))) else (some false))) else (none)) else (some true)
end
def spec_l02Ok.f (k : Nat) (a0 : Int) (l1 : List (S65)) : Option (Bool) := (spec_l00In.f a0 1 16).bind fun t122 => (if t122 = true then (spec_l02Ok.j0 k a0 l1 (decide ((l1.length : Int) > 60))) else (spec_l02Ok.j0 k a0 l1 true))
theorem spec_l02Ok.mono_l : ∀ k, (∀ y0 y1 y2, LeO (spec_l02Ok.j0 k y0 y1 y2) (spec_l02Ok.j0 (k + 1) y0 y1 y2)) ∧ (∀ y0 y1 y2, LeO (spec_l02Ok.l0 k y0 y1 y2) (spec_l02Ok.l0 (k + 1) y0 y1 y2))
  | 0 => ⟨fun _ _ _ r h => by simp [spec_l02Ok.j0] at h, fun _ _ _ r h => by simp [spec_l02Ok.l0] at h⟩
  | k + 1 => by
    obtain ⟨ih0, ih1⟩ := spec_l02Ok.mono_l k
    refine ⟨?_, ?_⟩
    · intro y0 y1 y2
      unfold spec_l02Ok.j0
      repeat' first
      | (with_reducible exact ih0 _ _ _)
      | (with_reducible exact ih1 _ _ _)
      | (with_reducible exact LeO.refl _)
      | (with_reducible exact LeO.none _)
      | (with_reducible refine LeO.ite ?_ ?_)
      | (with_reducible refine LeO.bind ?_ (fun _ => ?_))
      | exact ih0 _ _ _
      | exact ih1 _ _ _
      | exact LeO.none _
      | refine LeO.ite ?_ ?_
      | refine LeO.bind ?_ (fun _ => ?_)
    · intro y0 y1 y2
      unfold spec_l02Ok.l0
      repeat' first
      | (with_reducible exact ih0 _ _ _)
      | (with_reducible exact ih1 _ _ _)
      | (with_reducible exact LeO.refl _)
      | (with_reducible exact LeO.none _)
      | (with_reducible refine LeO.ite ?_ ?_)
      | (with_reducible refine LeO.bind ?_ (fun _ => ?_))
      | exact ih0 _ _ _
      | exact ih1 _ _ _
      | exact LeO.none _
      | refine LeO.ite ?_ ?_
      | refine LeO.bind ?_ (fun _ => ?_)
theorem spec_l02Ok.mono : ∀ a0 a1 k, LeO (spec_l02Ok.f k a0 a1) (spec_l02Ok.f (k + 1) a0 a1) := by
  intro a0 a1 k; obtain ⟨ih0, ih1⟩ := spec_l02Ok.mono_l k; unfold spec_l02Ok.f
  repeat' first
      | (with_reducible exact ih0 _ _ _)
      | (with_reducible exact ih1 _ _ _)
      | (with_reducible exact LeO.refl _)
      | (with_reducible exact LeO.none _)
      | (with_reducible refine LeO.ite ?_ ?_)
      | (with_reducible refine LeO.bind ?_ (fun _ => ?_))
      | exact ih0 _ _ _
      | exact ih1 _ _ _
      | exact LeO.none _
      | refine LeO.ite ?_ ?_
      | refine LeO.bind ?_ (fun _ => ?_)
def spec_l02Ok.T7 : Bool × List (List Nat × List Nat) := (true, [([], []), ([], []), ([1], [1]), ([2], [2]), ([3], [3]), ([0, 4], [0, 4]), ([5], [5]), ([6, 5], [6]), ([7], [7]), ([7], [7]), ([9, 7], [7, 9]), ([10, 7], [7, 10]), ([11, 7], [7, 11]), ([8, 12, 7, 7], [7, 8, 12]), ([13, 7], [7, 13]), ([7, 14], [7, 14]), ([15, 13], [15]), ([16], [16]), ([17, 16], [16, 17]), ([18, 16], [16, 18]), ([19, 16], [16, 19]), ([16], [16]), ([21, 16], [16, 21]), ([22, 16], [16, 22]), ([23, 16], [16, 23]), ([20, 24, 16], [16, 20, 24]), ([16, 25], [16, 25]), ([26, 16], [26]), ([27], [27]), ([28, 27], [27, 28]), ([29, 27], [27, 29]), ([30, 27], [27, 30]), ([31, 27, 27], [27, 31]), ([32, 27], [27, 32]), ([27, 33], [27, 33])])
def spec_l02Ok.B7 : List Nat := [0, 0, 2, 6, 14, 31, 63, 127, 255, 255, 767, 1791, 3839, 8191, 16383, 32767, 65535, 131071, 262143, 524287, 1048575, 131071, 2228223, 6422527, 14811135, 33554431, 67108863, 134217727, 268435455, 536870911, 1073741823, 2147483647, 4294967295, 8589934591, 17179869183]
theorem spec_l02Ok.tab7 : rtab .any (opsOf Try.f59 7) = spec_l02Ok.T7 := by kernel_rfl
theorem spec_l02Ok.bits7 : waitsOk spec_l02Ok.T7.2 spec_l02Ok.B7 = true := by kernel_rfl
set_option maxHeartbeats 8000000 in
set_option maxRecDepth 100000 in
theorem spec_l02Ok.calls (k : Nat) (a0 : Int) (A1 : Option Addr) (c1 : Nat) (l1 : List (S65)) (r : Bool) (w : World) (hr1 : Kd.C k65 w A1 l1.length l1) (hc1 : l1.length ≤ c1) (h : spec_l02Ok.f k a0 l1 = some r) :
    Calls Try.prog 59 #[.int .i64 a0, .slice A1 l1.length c1] w fun e w' => e = .returned (.bool r) ∧ Below w.heap.size w w' := by
  have HR1 := A_ hr1; have HC1 := A_ hc1; clear hr1 hc1; have HB := A_ (Below.refl w.heap.size w); have H : ((spec_l00In.f a0 1 16).bind fun t122 => (if t122 = true then (spec_l02Ok.j0 k a0 l1 (decide ((l1.length : Int) > 60))) else (spec_l02Ok.j0 k a0 l1 true))) = some r := h; clear h; have HC3 := A_ H; clear H; go_enter Try.func59, Try.ntmps59; go_upto_region 1 with (fail); go_cut [14] (fun v14 wc => ∃ (kq : Nat) (x14_2 : Bool), v14 = .bool x14_2 ∧ Aside0 (spec_l02Ok.j0 kq a0 l1 x14_2 = some r) ∧ Aside0 (kq ≤ k) ∧ Aside0 (Below w.heap.size w wc))
  case first =>
    have H := HC3.out; clear HC3; replace H := Option.bind_eq_some_iff.mp H; obtain ⟨t122, A40, H⟩ := H; replace H : (if t122 = true then (spec_l02Ok.j0 k a0 l1 (decide ((l1.length : Int) > 60))) else (spec_l02Ok.j0 k a0 l1 true)) = some r := H; have A4 := A_ A40; clear A40; by_cases c5 : t122 = true
    · subst c5; (have H1 : (spec_l02Ok.j0 k a0 l1 (decide ((l1.length : Int) > 60))) = some r := z36_); clear H; have H := H1; clear H1; have H' := A_ H; clear H; go_wp2_with (first | ((with_reducible refine gate_callee (f := 72) rfl ?_); refine goesL_ (some 8) rfl rfl Try.func72 z13_ rfl #[.int .i64 a0, .int .i64 1, .int .i64 16] rfl z2_ ?_; (with_reducible refine (spec_l00In.calls a0 1 16 true _ A4.out).mono ?_); rintro e w' ⟨rfl, ⟨nd, rfl⟩⟩; refine ⟨_, rfl, ?_⟩)); go_meet
      case rel => exact ⟨_, (decide ((l1.length : Int) > 60)), z11_, H', ⟨z73_⟩, ⟨z0_⟩⟩
    · replace c5 := Bool.eq_false_iff.mpr c5; subst c5; (have H1 : (spec_l02Ok.j0 k a0 l1 true) = some r := z17_); clear H; have H := H1; clear H1; have H' := A_ H; clear H; go_wp2_with (first | ((with_reducible refine gate_callee (f := 72) rfl ?_); refine goesL_ (some 8) rfl rfl Try.func72 z13_ rfl #[.int .i64 a0, .int .i64 1, .int .i64 16] rfl z2_ ?_; (with_reducible refine (spec_l00In.calls a0 1 16 false _ A4.out).mono ?_); rintro e w' ⟨rfl, ⟨nd, rfl⟩⟩; refine ⟨_, rfl, ?_⟩)); go_meet
      case rel => exact ⟨_, (true), z11_, H', ⟨z73_⟩, ⟨z0_⟩⟩
  case rest =>
    clear HC3; (try clear c1); (try clear p2); (try clear c5); obtain ⟨kq, x14_2, rfl, HA, HJ2, HB⟩ := hcut
    cases kq with
    | zero => exact absurd HA.out (by simp [spec_l02Ok.j0])
    | succ kj2 =>
      have H := HA.out; clear HA; simp only [spec_l02Ok.j0] at H; by_cases c6 : x14_2 = true
      · subst c6; (have H1 : (some false) = some r := z36_); clear H; have H := H1; clear H1; obtain rfl := Option.some.inj H; go_wp2; go_ret; exact ⟨z10_, z0_⟩
      · replace c6 := Bool.eq_false_iff.mpr c6; subst c6; (have H1 : (spec_l02Ok.l0 kj2 a0 l1 0) = some r := z17_); clear H; have H := H1; clear H1; have H' := A_ H; clear H; go_wp2; go_loopg [5] kj2 (fun kq v5 w' => ∃ (x5_2 : Int), v5 = .int .i64 x5_2 ∧ Aside0 (spec_l02Ok.l0 kq a0 l1 x5_2 = some r) ∧ Aside0 (kq ≤ kj2) ∧ Aside0 (Below w.heap.size w w'))
        case atStart => exact ⟨(0), z11_, H', ⟨Nat.le_refl _⟩, ⟨z0_⟩⟩
        case round =>
          clear H'; (try clear c1); (try clear p2); (try clear c5); (try clear c6); (try clear p2); obtain ⟨x5_2, rfl, HA, HK2, HB⟩ := hrel
          cases gk with
          | zero => exact absurd HA.out (by simp [spec_l02Ok.l0])
          | succ k2 =>
            have H := HA.out; clear HA; simp only [spec_l02Ok.l0] at H; by_cases c7 : x5_2 < (l1.length : Int)
            · rw [if_pos c7] at H; have c7b0 : decide (x5_2 < (l1.length : Int)) = true := decide_eq_true c7; clear c7; by_cases c8 : 0 ≤ x5_2
              · rw [if_pos c8] at H; have c8b0 : decide (0 ≤ x5_2) = true := decide_eq_true c8; clear c8; replace H := Option.bind_eq_some_iff.mp H; obtain ⟨t125, A90, H⟩ := H; replace H : (if t125 = true then ((spec_l02Person.f a0 ((rd_T65 l1 x5_2).f1)).bind fun t127 => (if t127 = true then (if ((rd_T65 l1 x5_2).f0) = ((rd_T65 l1 x5_2).f1) then (some false) else ((spec_l00In.f ((rd_T65 l1 x5_2).f2) 1 100000000).bind fun t131 => (if t131 = true then (spec_l02Ok.l0 k2 a0 l1 (wrap64 (x5_2 + 1))) else (some false)))) else (some false))) else (some false)) = some r := H; have A9 := A_ A90; clear A90; by_cases c10 : t125 = true
                · subst c10; (have H1 : ((spec_l02Person.f a0 ((rd_T65 l1 x5_2).f1)).bind fun t127 => (if t127 = true then (if ((rd_T65 l1 x5_2).f0) = ((rd_T65 l1 x5_2).f1) then (some false) else ((spec_l00In.f ((rd_T65 l1 x5_2).f2) 1 100000000).bind fun t131 => (if t131 = true then (spec_l02Ok.l0 k2 a0 l1 (wrap64 (x5_2 + 1))) else (some false)))) else (some false))) = some r := z36_); clear H; have H := H1; clear H1; replace H := Option.bind_eq_some_iff.mp H; obtain ⟨t127, A110, H⟩ := H; replace H : (if t127 = true then (if ((rd_T65 l1 x5_2).f0) = ((rd_T65 l1 x5_2).f1) then (some false) else ((spec_l00In.f ((rd_T65 l1 x5_2).f2) 1 100000000).bind fun t131 => (if t131 = true then (spec_l02Ok.l0 k2 a0 l1 (wrap64 (x5_2 + 1))) else (some false)))) else (some false)) = some r := H; have A11 := A_ A110; clear A110; by_cases c12 : t127 = true
                  · subst c12; (have H1 : (if ((rd_T65 l1 x5_2).f0) = ((rd_T65 l1 x5_2).f1) then (some false) else ((spec_l00In.f ((rd_T65 l1 x5_2).f2) 1 100000000).bind fun t131 => (if t131 = true then (spec_l02Ok.l0 k2 a0 l1 (wrap64 (x5_2 + 1))) else (some false)))) = some r := z36_); clear H; have H := H1; clear H1; by_cases c13 : ((rd_T65 l1 x5_2).f0) = ((rd_T65 l1 x5_2).f1)
                    · rw [if_pos c13] at H; have c13b0 : (((rd_T65 l1 x5_2).f0) == ((rd_T65 l1 x5_2).f1)) = true := beq_iff_eq.mpr c13; have c13b1 : (((rd_T65 l1 x5_2).f0) != ((rd_T65 l1 x5_2).f1)) = false := bne_eq_false_iff_eq.mpr c13; clear c13; obtain rfl := Option.some.inj H; have p123 : 0 ≤ (x5_2 : Int) := of_decide_eq_true z3_; have q123 : x5_2 < (l1.length : Int) := of_decide_eq_true z3_; obtain ⟨ad123, e123, hx123_0, hx123_1, hx123_2⟩ := at_T65 HR1.out x5_2 p123 q123; cases e123; replace hx123_0 := (HB.out.cell (bl_ w _ hx123_0)).trans hx123_0; replace hx123_1 := (HB.out.cell (bl_ w _ hx123_1)).trans hx123_1; replace hx123_2 := (HB.out.cell (bl_ w _ hx123_2)).trans hx123_2; replace p123 := eq_true p123; replace q123 := eq_true q123; (try go_wp2); have n0_ := A_ (below_drew1 HB.out); clear HB; have HB := n0_; clear n0_; have p124 : 0 ≤ (x5_2 : Int) := of_decide_eq_true z3_; have q124 : x5_2 < (l1.length : Int) := of_decide_eq_true z3_; obtain ⟨ad124, e124, hx124_0, hx124_1, hx124_2⟩ := at_T65 HR1.out x5_2 p124 q124; have hw124_2 := hx124_2; have hw124_1 := hx124_1; have hw124_0 := hx124_0; obtain rfl : ad123 = ad124 := (by injection e124); replace hx124_0 := (HB.out.cell (bl_ w _ hx124_0)).trans hx124_0; replace hx124_1 := (HB.out.cell (bl_ w _ hx124_1)).trans hx124_1; replace hx124_2 := (HB.out.cell (bl_ w _ hx124_2)).trans hx124_2; replace p124 := eq_true p124; replace q124 := eq_true q124; have p126 : 0 ≤ (x5_2 : Int) := of_decide_eq_true z3_; have q126 : x5_2 < (l1.length : Int) := of_decide_eq_true z3_; obtain ⟨ad126, e126, hx126_0, hx126_1, hx126_2⟩ := at_T65 HR1.out x5_2 p126 q126; have hw126_2 := hx126_2; have hw126_1 := hx126_1; have hw126_0 := hx126_0; obtain rfl : ad123 = ad126 := (by injection e126); replace hx126_0 := (HB.out.cell (bl_ w _ hx126_0)).trans hx126_0; replace hx126_1 := (HB.out.cell (bl_ w _ hx126_1)).trans hx126_1; replace hx126_2 := (HB.out.cell (bl_ w _ hx126_2)).trans hx126_2; replace p126 := eq_true p126; replace q126 := eq_true q126; have p128 : 0 ≤ (x5_2 : Int) := of_decide_eq_true z3_; have q128 : x5_2 < (l1.length : Int) := of_decide_eq_true z3_; obtain ⟨ad128, e128, hx128_0, hx128_1, hx128_2⟩ := at_T65 HR1.out x5_2 p128 q128; have hw128_2 := hx128_2; have hw128_1 := hx128_1; have hw128_0 := hx128_0; obtain rfl : ad123 = ad128 := (by injection e128); replace hx128_0 := (HB.out.cell (bl_ w _ hx128_0)).trans hx128_0; replace hx128_1 := (HB.out.cell (bl_ w _ hx128_1)).trans hx128_1; replace hx128_2 := (HB.out.cell (bl_ w _ hx128_2)).trans hx128_2; replace p128 := eq_true p128; replace q128 := eq_true q128; have p129 : 0 ≤ (x5_2 : Int) := of_decide_eq_true z3_; have q129 : x5_2 < (l1.length : Int) := of_decide_eq_true z3_; obtain ⟨ad129, e129, hx129_0, hx129_1, hx129_2⟩ := at_T65 HR1.out x5_2 p129 q129; have hw129_2 := hx129_2; have hw129_1 := hx129_1; have hw129_0 := hx129_0; obtain rfl : ad123 = ad129 := (by injection e129); replace hx129_0 := (HB.out.cell (bl_ w _ hx129_0)).trans hx129_0; replace hx129_1 := (HB.out.cell (bl_ w _ hx129_1)).trans hx129_1; replace hx129_2 := (HB.out.cell (bl_ w _ hx129_2)).trans hx129_2; replace p129 := eq_true p129; replace q129 := eq_true q129; refine start_ (n := 35) (S := fun w' => w'.cell? (ad123.add ((x5_2).toNat * 3)) = some (.int .i64 ((rd_T65 l1 x5_2).f0)) ∧ w'.cell? ⟨(ad123.add ((x5_2).toNat * 3)).block, (ad123.add ((x5_2).toNat * 3)).off + 1, none⟩ = some (.int .i64 ((rd_T65 l1 x5_2).f1)) ∧ w'.cell? ⟨(ad123.add ((x5_2).toNat * 3)).block, (ad123.add ((x5_2).toNat * 3)).off + 2, none⟩ = some (.int .i64 ((rd_T65 l1 x5_2).f2)) ∧ w'.cell? (ad123.add ((x5_2).toNat * 3)) = some (.int .i64 ((rd_T65 l1 x5_2).f0)) ∧ w'.cell? ⟨(ad123.add ((x5_2).toNat * 3)).block, (ad123.add ((x5_2).toNat * 3)).off + 1, none⟩ = some (.int .i64 ((rd_T65 l1 x5_2).f1)) ∧ w'.cell? ⟨(ad123.add ((x5_2).toNat * 3)).block, (ad123.add ((x5_2).toNat * 3)).off + 2, none⟩ = some (.int .i64 ((rd_T65 l1 x5_2).f2)) ∧ w'.cell? (ad123.add ((x5_2).toNat * 3)) = some (.int .i64 ((rd_T65 l1 x5_2).f0)) ∧ w'.cell? ⟨(ad123.add ((x5_2).toNat * 3)).block, (ad123.add ((x5_2).toNat * 3)).off + 1, none⟩ = some (.int .i64 ((rd_T65 l1 x5_2).f1)) ∧ w'.cell? ⟨(ad123.add ((x5_2).toNat * 3)).block, (ad123.add ((x5_2).toNat * 3)).off + 2, none⟩ = some (.int .i64 ((rd_T65 l1 x5_2).f2)) ∧ w'.cell? (ad123.add ((x5_2).toNat * 3)) = some (.int .i64 ((rd_T65 l1 x5_2).f0)) ∧ w'.cell? ⟨(ad123.add ((x5_2).toNat * 3)).block, (ad123.add ((x5_2).toNat * 3)).off + 1, none⟩ = some (.int .i64 ((rd_T65 l1 x5_2).f1)) ∧ w'.cell? ⟨(ad123.add ((x5_2).toNat * 3)).block, (ad123.add ((x5_2).toNat * 3)).off + 2, none⟩ = some (.int .i64 ((rd_T65 l1 x5_2).f2))) (ds := []) #[false, false, false, false, false, false, false, false, false, false, false, false, false, false, false, false, false, false, false, false, false, false, false, false, false, false, false, false, false, false, false, false, false, false, false] z13_ rfl rfl ⟨((HB.out.cell (bl_ _ _ hw124_0)).trans hw124_0), ((HB.out.cell (bl_ _ _ hw124_1)).trans hw124_1), ((HB.out.cell (bl_ _ _ hw124_2)).trans hw124_2), ((HB.out.cell (bl_ _ _ hw126_0)).trans hw126_0), ((HB.out.cell (bl_ _ _ hw126_1)).trans hw126_1), ((HB.out.cell (bl_ _ _ hw126_2)).trans hw126_2), ((HB.out.cell (bl_ _ _ hw128_0)).trans hw128_0), ((HB.out.cell (bl_ _ _ hw128_1)).trans hw128_1), ((HB.out.cell (bl_ _ _ hw128_2)).trans hw128_2), ((HB.out.cell (bl_ _ _ hw129_0)).trans hw129_0), ((HB.out.cell (bl_ _ _ hw129_1)).trans hw129_1), ((HB.out.cell (bl_ _ _ hw129_2)).trans hw129_2)⟩ (fun hHeld => ?_); refine with_tabW spec_l02Ok.tab7 spec_l02Ok.bits7 (fun HT_ HW_ => ?_); generalize wr.drew = w14 at HB hx124_0 hx124_1 hx124_2 hx126_0 hx126_1 hx126_2 hx128_0 hx128_1 hx128_2 hx129_0 hx129_1 hx129_2 hHeld ⊢; refine pure_ (i := 0) (N := some 24) (v := ?_) (a' := ?_) #[true, false, false, false, false, false, false, false, false, false, false, false, false, false, false, false, false, false, false, false, false, false, false, false, false, false, false, false, false, false, false, false, false, false, false] rfl rfl (any_of HT_.out z13_) (fun _ _ _ h => h) (Or.inl ⟨by rfl, ?_⟩) ?_ ?_; rotate_left
                      · intro w'; go_simp; with_reducible rfl
                      rotate_left
                      · exact zp_
                      refine pure_ (i := 1) (N := some 25) (v := ?_) (a' := ?_) #[true, true, false, false, false, false, false, false, false, false, false, false, false, false, false, false, false, false, false, false, false, false, false, false, false, false, false, false, false, false, false, false, false, false, false] rfl rfl (any_of HT_.out z13_) (fun _ _ _ h => h) (Or.inl ⟨by rfl, ?_⟩) ?_ ?_; rotate_left
                      · intro w'; go_simp; with_reducible rfl
                      rotate_left
                      · exact zp_
                      refine pure_ (i := 2) (N := some 26) (v := ?_) (a' := ?_) #[true, true, true, false, false, false, false, false, false, false, false, false, false, false, false, false, false, false, false, false, false, false, false, false, false, false, false, false, false, false, false, false, false, false, false] rfl rfl (any_of HT_.out z13_) (fun _ _ _ h => h) (Or.inl ⟨by rfl, ?_⟩) ?_ ?_; rotate_left
                      · intro w'; go_simp; with_reducible rfl
                      rotate_left
                      · exact zp_
                      refine pure_ (i := 3) (N := some 27) (v := ?_) (a' := ?_) #[true, true, true, true, false, false, false, false, false, false, false, false, false, false, false, false, false, false, false, false, false, false, false, false, false, false, false, false, false, false, false, false, false, false, false] rfl rfl (any_of HT_.out z13_) (fun _ _ _ h => h) (Or.inl ⟨by rfl, ?_⟩) ?_ ?_; rotate_left
                      · intro w'; go_simp; with_reducible rfl
                      rotate_left
                      · exact zp_
                      refine take_ (i := 4) (N := some 28) (v := ?_) (a' := ?_) #[true, true, true, true, true, false, false, false, false, false, false, false, false, false, false, false, false, false, false, false, false, false, false, false, false, false, false, false, false, false, false, false, false, false, false] rfl rfl (take_ofW HT_.out HW_.out z13_) (fun _ _ _ h => h) (Or.inl ⟨by rfl, ?_⟩) hHeld ?_ ?_; rotate_left
                      · rintro w' ⟨s0, s1, s2, s3, s4, s5, s6, s7, s8, s9, s10, s11⟩; go_simp; with_reducible rfl
                      rotate_left
                      · exact zp_
                      refine one_ (i := 5) (N := some 29) #[true, true, true, true, true, true, false, false, false, false, false, false, false, false, false, false, false, false, false, false, false, false, false, false, false, false, false, false, false, false, false, false, false, false, false] rfl rfl (one_of HT_.out z13_) (by decide) (fun K hK => ?_); refine goes_ Try.func66 z13_ rfl #[.int .i64 a0, .int .i64 ((rd_T65 l1 x5_2).f0)] (by rfl) rfl rfl z2_ ?_; (with_reducible refine (spec_l02Person.calls a0 ((rd_T65 l1 x5_2).f0) true _ A9.out).mono ?_); rintro e w' ⟨rfl, ⟨nd, rfl⟩⟩; refine ⟨_, rfl, ?_⟩; refine hK.out _ _ ⟨((HB.out.cell (bl_ _ _ hw124_0)).trans hw124_0), ((HB.out.cell (bl_ _ _ hw124_1)).trans hw124_1), ((HB.out.cell (bl_ _ _ hw124_2)).trans hw124_2), ((HB.out.cell (bl_ _ _ hw126_0)).trans hw126_0), ((HB.out.cell (bl_ _ _ hw126_1)).trans hw126_1), ((HB.out.cell (bl_ _ _ hw126_2)).trans hw126_2), ((HB.out.cell (bl_ _ _ hw128_0)).trans hw128_0), ((HB.out.cell (bl_ _ _ hw128_1)).trans hw128_1), ((HB.out.cell (bl_ _ _ hw128_2)).trans hw128_2), ((HB.out.cell (bl_ _ _ hw129_0)).trans hw129_0), ((HB.out.cell (bl_ _ _ hw129_1)).trans hw129_1), ((HB.out.cell (bl_ _ _ hw129_2)).trans hw129_2)⟩ (fun hHeld => ?_); clear hK K; refine norm_ (a' := ?_) ?_ ?_; rotate_left
                      · show Act.put _ (some 29) _ = _; exact zp_
                      refine pure_ (i := 6) (N := some 30) (v := ?_) (a' := ?_) #[true, true, true, true, true, true, true, false, false, false, false, false, false, false, false, false, false, false, false, false, false, false, false, false, false, false, false, false, false, false, false, false, false, false, false] rfl rfl (any_of HT_.out z13_) (fun _ _ _ h => h) (Or.inl ⟨by rfl, ?_⟩) ?_ ?_; rotate_left
                      · intro w'; go_simp; with_reducible rfl
                      rotate_left
                      · exact zp_
                      refine pure_ (i := 7) (N := some 31) (v := ?_) (a' := ?_) #[true, true, true, true, true, true, true, true, false, false, false, false, false, false, false, false, false, false, false, false, false, false, false, false, false, false, false, false, false, false, false, false, false, false, false] rfl rfl (any_of HT_.out z13_) (fun _ _ _ h => h) (Or.inl ⟨by rfl, ?_⟩) ?_ ?_; rotate_left
                      · intro w'; go_simp; with_reducible rfl
                      rotate_left
                      · exact zp_
                      refine pure_ (i := 8) (N := some 32) (v := ?_) (a' := ?_) #[true, true, true, true, true, true, true, true, true, false, false, false, false, false, false, false, false, false, false, false, false, false, false, false, false, false, false, false, false, false, false, false, false, false, false] rfl rfl (any_of HT_.out z13_) (fun _ _ _ h => h) (Or.inl ⟨by rfl, ?_⟩) ?_ ?_; rotate_left
                      · intro w'; go_simp; with_reducible rfl
                      rotate_left
                      · exact zp_
                      refine pure_ (i := 9) (N := some 33) (v := ?_) (a' := ?_) #[true, true, true, true, true, true, true, true, true, true, false, false, false, false, false, false, false, false, false, false, false, false, false, false, false, false, false, false, false, false, false, false, false, false, false] rfl rfl (any_of HT_.out z13_) (fun _ _ _ h => h) (Or.inl ⟨by rfl, ?_⟩) ?_ ?_; rotate_left
                      · intro w'; go_simp; with_reducible rfl
                      rotate_left
                      · exact zp_
                      refine pure_ (i := 10) (N := some 34) (v := ?_) (a' := ?_) #[true, true, true, true, true, true, true, true, true, true, true, false, false, false, false, false, false, false, false, false, false, false, false, false, false, false, false, false, false, false, false, false, false, false, false] rfl rfl (any_of HT_.out z13_) (fun _ _ _ h => h) (Or.inl ⟨by rfl, ?_⟩) ?_ ?_; rotate_left
                      · intro w'; go_simp; with_reducible rfl
                      rotate_left
                      · exact zp_
                      refine pure_ (i := 11) (N := some 35) (v := ?_) (a' := ?_) #[true, true, true, true, true, true, true, true, true, true, true, true, false, false, false, false, false, false, false, false, false, false, false, false, false, false, false, false, false, false, false, false, false, false, false] rfl rfl (any_of HT_.out z13_) (fun _ _ _ h => h) (Or.inl ⟨by rfl, ?_⟩) ?_ ?_; rotate_left
                      · intro w'; go_simp; with_reducible rfl
                      rotate_left
                      · exact zp_
                      refine take_ (i := 12) (N := some 36) (v := ?_) (a' := ?_) #[true, true, true, true, true, true, true, true, true, true, true, true, true, false, false, false, false, false, false, false, false, false, false, false, false, false, false, false, false, false, false, false, false, false, false] rfl rfl (take_ofW HT_.out HW_.out z13_) (fun _ _ _ h => h) (Or.inl ⟨by rfl, ?_⟩) hHeld ?_ ?_; rotate_left
                      · rintro w' ⟨s0, s1, s2, s3, s4, s5, s6, s7, s8, s9, s10, s11⟩; go_simp; with_reducible rfl
                      rotate_left
                      · exact zp_
                      refine one_ (i := 13) (N := some 37) #[true, true, true, true, true, true, true, true, true, true, true, true, true, true, false, false, false, false, false, false, false, false, false, false, false, false, false, false, false, false, false, false, false, false, false] rfl rfl (one_of HT_.out z13_) (by decide) (fun K hK => ?_); refine goes_ Try.func66 z13_ rfl #[.int .i64 a0, .int .i64 ((rd_T65 l1 x5_2).f1)] (by rfl) rfl rfl z2_ ?_; (with_reducible refine (spec_l02Person.calls a0 ((rd_T65 l1 x5_2).f1) true _ A11.out).mono ?_); rintro e w' ⟨rfl, ⟨nd, rfl⟩⟩; refine ⟨_, rfl, ?_⟩; refine hK.out _ _ ⟨((HB.out.cell (bl_ _ _ hw124_0)).trans hw124_0), ((HB.out.cell (bl_ _ _ hw124_1)).trans hw124_1), ((HB.out.cell (bl_ _ _ hw124_2)).trans hw124_2), ((HB.out.cell (bl_ _ _ hw126_0)).trans hw126_0), ((HB.out.cell (bl_ _ _ hw126_1)).trans hw126_1), ((HB.out.cell (bl_ _ _ hw126_2)).trans hw126_2), ((HB.out.cell (bl_ _ _ hw128_0)).trans hw128_0), ((HB.out.cell (bl_ _ _ hw128_1)).trans hw128_1), ((HB.out.cell (bl_ _ _ hw128_2)).trans hw128_2), ((HB.out.cell (bl_ _ _ hw129_0)).trans hw129_0), ((HB.out.cell (bl_ _ _ hw129_1)).trans hw129_1), ((HB.out.cell (bl_ _ _ hw129_2)).trans hw129_2)⟩ (fun hHeld => ?_); clear hK K; refine norm_ (a' := ?_) ?_ ?_; rotate_left
                      · show Act.put _ (some 37) _ = _; exact zp_
                      refine pure_ (i := 14) (N := some 38) (v := ?_) (a' := ?_) #[true, true, true, true, true, true, true, true, true, true, true, true, true, true, true, false, false, false, false, false, false, false, false, false, false, false, false, false, false, false, false, false, false, false, false] rfl rfl (any_of HT_.out z13_) (fun _ _ _ h => h) (Or.inl ⟨by rfl, ?_⟩) ?_ ?_; rotate_left
                      · intro w'; go_simp; with_reducible rfl
                      rotate_left
                      · exact zp_
                      refine pure_ (i := 15) (N := some 39) (v := ?_) (a' := ?_) #[true, true, true, true, true, true, true, true, true, true, true, true, true, true, true, true, false, false, false, false, false, false, false, false, false, false, false, false, false, false, false, false, false, false, false] rfl rfl (any_of HT_.out z13_) (fun _ _ _ h => h) (Or.inl ⟨by rfl, ?_⟩) ?_ ?_; rotate_left
                      · intro w'; go_simp; with_reducible rfl
                      rotate_left
                      · exact zp_
                      refine pure_ (i := 16) (N := some 40) (v := ?_) (a' := ?_) #[true, true, true, true, true, true, true, true, true, true, true, true, true, true, true, true, true, false, false, false, false, false, false, false, false, false, false, false, false, false, false, false, false, false, false] rfl rfl (any_of HT_.out z13_) (fun _ _ _ h => h) (Or.inl ⟨by rfl, ?_⟩) ?_ ?_; rotate_left
                      · intro w'; go_simp; with_reducible rfl
                      rotate_left
                      · exact zp_
                      refine pure_ (i := 17) (N := some 41) (v := ?_) (a' := ?_) #[true, true, true, true, true, true, true, true, true, true, true, true, true, true, true, true, true, true, false, false, false, false, false, false, false, false, false, false, false, false, false, false, false, false, false] rfl rfl (any_of HT_.out z13_) (fun _ _ _ h => h) (Or.inl ⟨by rfl, ?_⟩) ?_ ?_; rotate_left
                      · intro w'; go_simp; with_reducible rfl
                      rotate_left
                      · exact zp_
                      refine pure_ (i := 18) (N := some 42) (v := ?_) (a' := ?_) #[true, true, true, true, true, true, true, true, true, true, true, true, true, true, true, true, true, true, true, false, false, false, false, false, false, false, false, false, false, false, false, false, false, false, false] rfl rfl (any_of HT_.out z13_) (fun _ _ _ h => h) (Or.inl ⟨by rfl, ?_⟩) ?_ ?_; rotate_left
                      · intro w'; go_simp; with_reducible rfl
                      rotate_left
                      · exact zp_
                      refine pure_ (i := 19) (N := some 43) (v := ?_) (a' := ?_) #[true, true, true, true, true, true, true, true, true, true, true, true, true, true, true, true, true, true, true, true, false, false, false, false, false, false, false, false, false, false, false, false, false, false, false] rfl rfl (any_of HT_.out z13_) (fun _ _ _ h => h) (Or.inl ⟨by rfl, ?_⟩) ?_ ?_; rotate_left
                      · intro w'; go_simp; with_reducible rfl
                      rotate_left
                      · exact zp_
                      refine pure_ (i := 21) (N := some 45) (v := ?_) (a' := ?_) #[true, true, true, true, true, true, true, true, true, true, true, true, true, true, true, true, true, true, true, true, false, true, false, false, false, false, false, false, false, false, false, false, false, false, false] rfl rfl (any_of HT_.out z13_) (fun _ _ _ h => h) (Or.inl ⟨by rfl, ?_⟩) ?_ ?_; rotate_left
                      · intro w'; go_simp; with_reducible rfl
                      rotate_left
                      · exact zp_
                      refine pure_ (i := 22) (N := some 46) (v := ?_) (a' := ?_) #[true, true, true, true, true, true, true, true, true, true, true, true, true, true, true, true, true, true, true, true, false, true, true, false, false, false, false, false, false, false, false, false, false, false, false] rfl rfl (any_of HT_.out z13_) (fun _ _ _ h => h) (Or.inl ⟨by rfl, ?_⟩) ?_ ?_; rotate_left
                      · intro w'; go_simp; with_reducible rfl
                      rotate_left
                      · exact zp_
                      refine pure_ (i := 23) (N := some 47) (v := ?_) (a' := ?_) #[true, true, true, true, true, true, true, true, true, true, true, true, true, true, true, true, true, true, true, true, false, true, true, true, false, false, false, false, false, false, false, false, false, false, false] rfl rfl (any_of HT_.out z13_) (fun _ _ _ h => h) (Or.inl ⟨by rfl, ?_⟩) ?_ ?_; rotate_left
                      · intro w'; go_simp; with_reducible rfl
                      rotate_left
                      · exact zp_
                      refine take_ (i := 20) (N := some 44) (v := ?_) (a' := ?_) #[true, true, true, true, true, true, true, true, true, true, true, true, true, true, true, true, true, true, true, true, true, true, true, true, false, false, false, false, false, false, false, false, false, false, false] rfl rfl (take_ofW HT_.out HW_.out z13_) (fun _ _ _ h => h) (Or.inl ⟨by rfl, ?_⟩) hHeld ?_ ?_; rotate_left
                      · rintro w' ⟨s0, s1, s2, s3, s4, s5, s6, s7, s8, s9, s10, s11⟩; go_simp; with_reducible rfl
                      rotate_left
                      · exact zp_
                      refine take_ (i := 24) (N := some 48) (v := ?_) (a' := ?_) #[true, true, true, true, true, true, true, true, true, true, true, true, true, true, true, true, true, true, true, true, true, true, true, true, true, false, false, false, false, false, false, false, false, false, false] rfl rfl (take_ofW HT_.out HW_.out z13_) (fun _ _ _ h => h) (Or.inl ⟨by rfl, ?_⟩) hHeld ?_ ?_; rotate_left
                      · rintro w' ⟨s0, s1, s2, s3, s4, s5, s6, s7, s8, s9, s10, s11⟩; go_simp; with_reducible rfl
                      rotate_left
                      · exact zp_
                      refine pure_ (i := 25) (N := some 49) (v := ?_) (a' := ?_) #[true, true, true, true, true, true, true, true, true, true, true, true, true, true, true, true, true, true, true, true, true, true, true, true, true, true, false, false, false, false, false, false, false, false, false] rfl rfl (any_of HT_.out z13_) (fun _ _ _ h => h) (Or.inl ⟨by rfl, ?_⟩) ?_ ?_; rotate_left
                      · intro w'; go_simp; with_reducible rfl
                      rotate_left
                      · exact zp_
                      refine pure_ (i := 26) (N := some 50) (v := ?_) (a' := ?_) #[true, true, true, true, true, true, true, true, true, true, true, true, true, true, true, true, true, true, true, true, true, true, true, true, true, true, true, false, false, false, false, false, false, false, false] rfl rfl (any_of HT_.out z13_) (fun _ _ _ h => h) (Or.inl ⟨by rfl, ?_⟩) ?_ ?_; rotate_left
                      · intro w'; go_simp; with_reducible rfl
                      rotate_left
                      · exact zp_
                      refine pure_ (i := 27) (N := some 51) (v := ?_) (a' := ?_) #[true, true, true, true, true, true, true, true, true, true, true, true, true, true, true, true, true, true, true, true, true, true, true, true, true, true, true, true, false, false, false, false, false, false, false] rfl rfl (any_of HT_.out z13_) (fun _ _ _ h => h) (Or.inl ⟨by rfl, ?_⟩) ?_ ?_; rotate_left
                      · intro w'; go_simp; with_reducible rfl
                      rotate_left
                      · exact zp_
                      refine pure_ (i := 28) (N := some 52) (v := undef) (a' := ?_) #[true, true, true, true, true, true, true, true, true, true, true, true, true, true, true, true, true, true, true, true, true, true, true, true, true, true, true, true, true, false, false, false, false, false, false] rfl rfl (any_of HT_.out z13_) (fun _ _ _ h => h) (Or.inr ⟨by rfl, rfl⟩) ?_ ?_; rotate_left
                      · exact zp_
                      refine pure_ (i := 29) (N := some 53) (v := undef) (a' := ?_) #[true, true, true, true, true, true, true, true, true, true, true, true, true, true, true, true, true, true, true, true, true, true, true, true, true, true, true, true, true, true, false, false, false, false, false] rfl rfl (any_of HT_.out z13_) (fun _ _ _ h => h) (Or.inr ⟨by rfl, rfl⟩) ?_ ?_; rotate_left
                      · exact zp_
                      refine pure_ (i := 30) (N := some 54) (v := undef) (a' := ?_) #[true, true, true, true, true, true, true, true, true, true, true, true, true, true, true, true, true, true, true, true, true, true, true, true, true, true, true, true, true, true, true, false, false, false, false] rfl rfl (any_of HT_.out z13_) (fun _ _ _ h => h) (Or.inr ⟨by rfl, rfl⟩) ?_ ?_; rotate_left
                      · exact zp_
                      refine pure_ (i := 31) (N := some 55) (v := undef) (a' := ?_) #[true, true, true, true, true, true, true, true, true, true, true, true, true, true, true, true, true, true, true, true, true, true, true, true, true, true, true, true, true, true, true, true, false, false, false] rfl rfl (any_of HT_.out z13_) (fun _ _ _ h => h) (Or.inr ⟨by rfl, rfl⟩) ?_ ?_; rotate_left
                      · exact zp_
                      refine pure_ (i := 32) (N := some 56) (v := undef) (a' := ?_) #[true, true, true, true, true, true, true, true, true, true, true, true, true, true, true, true, true, true, true, true, true, true, true, true, true, true, true, true, true, true, true, true, true, false, false] rfl rfl (any_of HT_.out z13_) (fun _ _ _ h => h) (Or.inr ⟨by rfl, rfl⟩) ?_ ?_; rotate_left
                      · exact zp_
                      refine pure_ (i := 33) (N := some 57) (v := undef) (a' := ?_) #[true, true, true, true, true, true, true, true, true, true, true, true, true, true, true, true, true, true, true, true, true, true, true, true, true, true, true, true, true, true, true, true, true, true, false] rfl rfl (any_of HT_.out z13_) (fun _ _ _ h => h) (Or.inr ⟨by rfl, rfl⟩) ?_ ?_; rotate_left
                      · exact zp_
                      refine pure_ (i := 34) (N := some 58) (v := ?_) (a' := ?_) #[true, true, true, true, true, true, true, true, true, true, true, true, true, true, true, true, true, true, true, true, true, true, true, true, true, true, true, true, true, true, true, true, true, true, true] rfl rfl (any_of HT_.out z13_) (fun _ _ _ h => h) (Or.inl ⟨by rfl, ?_⟩) ?_ ?_; rotate_left
                      · intro w'; go_simp; with_reducible rfl
                      rotate_left
                      · exact zp_
                      refine done_ (done_of HT_.out z13_) ?_; (try go_wp2); go_ret; exact ⟨z10_, z0_⟩
                    · rw [if_neg c13] at H; have c13b0 : (((rd_T65 l1 x5_2).f0) == ((rd_T65 l1 x5_2).f1)) = false := beq_eq_false_iff_ne.mpr c13; have c13b1 : (((rd_T65 l1 x5_2).f0) != ((rd_T65 l1 x5_2).f1)) = true := bne_iff_ne.mpr c13; replace H := Option.bind_eq_some_iff.mp H; obtain ⟨t131, A150, H⟩ := H; replace H : (if t131 = true then (spec_l02Ok.l0 k2 a0 l1 (wrap64 (x5_2 + 1))) else (some false)) = some r := H; have A15 := A_ A150; clear A150; by_cases c16 : t131 = true
                      · subst c16; (have H1 : (spec_l02Ok.l0 k2 a0 l1 (wrap64 (x5_2 + 1))) = some r := z36_); clear H; have H := H1; clear H1; have H' := A_ H; clear H; have p123 : 0 ≤ (x5_2 : Int) := of_decide_eq_true z3_; have q123 : x5_2 < (l1.length : Int) := of_decide_eq_true z3_; obtain ⟨ad123, e123, hx123_0, hx123_1, hx123_2⟩ := at_T65 HR1.out x5_2 p123 q123; cases e123; replace hx123_0 := (HB.out.cell (bl_ w _ hx123_0)).trans hx123_0; replace hx123_1 := (HB.out.cell (bl_ w _ hx123_1)).trans hx123_1; replace hx123_2 := (HB.out.cell (bl_ w _ hx123_2)).trans hx123_2; replace p123 := eq_true p123; replace q123 := eq_true q123; (try go_wp2); have n0_ := A_ (below_drew1 HB.out); clear HB; have HB := n0_; clear n0_; have p124 : 0 ≤ (x5_2 : Int) := of_decide_eq_true z3_; have q124 : x5_2 < (l1.length : Int) := of_decide_eq_true z3_; obtain ⟨ad124, e124, hx124_0, hx124_1, hx124_2⟩ := at_T65 HR1.out x5_2 p124 q124; have hw124_2 := hx124_2; have hw124_1 := hx124_1; have hw124_0 := hx124_0; obtain rfl : ad123 = ad124 := (by injection e124); replace hx124_0 := (HB.out.cell (bl_ w _ hx124_0)).trans hx124_0; replace hx124_1 := (HB.out.cell (bl_ w _ hx124_1)).trans hx124_1; replace hx124_2 := (HB.out.cell (bl_ w _ hx124_2)).trans hx124_2; replace p124 := eq_true p124; replace q124 := eq_true q124; have p126 : 0 ≤ (x5_2 : Int) := of_decide_eq_true z3_; have q126 : x5_2 < (l1.length : Int) := of_decide_eq_true z3_; obtain ⟨ad126, e126, hx126_0, hx126_1, hx126_2⟩ := at_T65 HR1.out x5_2 p126 q126; have hw126_2 := hx126_2; have hw126_1 := hx126_1; have hw126_0 := hx126_0; obtain rfl : ad123 = ad126 := (by injection e126); replace hx126_0 := (HB.out.cell (bl_ w _ hx126_0)).trans hx126_0; replace hx126_1 := (HB.out.cell (bl_ w _ hx126_1)).trans hx126_1; replace hx126_2 := (HB.out.cell (bl_ w _ hx126_2)).trans hx126_2; replace p126 := eq_true p126; replace q126 := eq_true q126; have p128 : 0 ≤ (x5_2 : Int) := of_decide_eq_true z3_; have q128 : x5_2 < (l1.length : Int) := of_decide_eq_true z3_; obtain ⟨ad128, e128, hx128_0, hx128_1, hx128_2⟩ := at_T65 HR1.out x5_2 p128 q128; have hw128_2 := hx128_2; have hw128_1 := hx128_1; have hw128_0 := hx128_0; obtain rfl : ad123 = ad128 := (by injection e128); replace hx128_0 := (HB.out.cell (bl_ w _ hx128_0)).trans hx128_0; replace hx128_1 := (HB.out.cell (bl_ w _ hx128_1)).trans hx128_1; replace hx128_2 := (HB.out.cell (bl_ w _ hx128_2)).trans hx128_2; replace p128 := eq_true p128; replace q128 := eq_true q128; have p129 : 0 ≤ (x5_2 : Int) := of_decide_eq_true z3_; have q129 : x5_2 < (l1.length : Int) := of_decide_eq_true z3_; obtain ⟨ad129, e129, hx129_0, hx129_1, hx129_2⟩ := at_T65 HR1.out x5_2 p129 q129; have hw129_2 := hx129_2; have hw129_1 := hx129_1; have hw129_0 := hx129_0; obtain rfl : ad123 = ad129 := (by injection e129); replace hx129_0 := (HB.out.cell (bl_ w _ hx129_0)).trans hx129_0; replace hx129_1 := (HB.out.cell (bl_ w _ hx129_1)).trans hx129_1; replace hx129_2 := (HB.out.cell (bl_ w _ hx129_2)).trans hx129_2; replace p129 := eq_true p129; replace q129 := eq_true q129; have p130 : 0 ≤ (x5_2 : Int) := of_decide_eq_true z3_; have q130 : x5_2 < (l1.length : Int) := of_decide_eq_true z3_; obtain ⟨ad130, e130, hx130_0, hx130_1, hx130_2⟩ := at_T65 HR1.out x5_2 p130 q130; have hw130_2 := hx130_2; have hw130_1 := hx130_1; have hw130_0 := hx130_0; obtain rfl : ad123 = ad130 := (by injection e130); replace hx130_0 := (HB.out.cell (bl_ w _ hx130_0)).trans hx130_0; replace hx130_1 := (HB.out.cell (bl_ w _ hx130_1)).trans hx130_1; replace hx130_2 := (HB.out.cell (bl_ w _ hx130_2)).trans hx130_2; replace p130 := eq_true p130; replace q130 := eq_true q130; refine start_ (n := 35) (S := fun w' => w'.cell? (ad123.add ((x5_2).toNat * 3)) = some (.int .i64 ((rd_T65 l1 x5_2).f0)) ∧ w'.cell? ⟨(ad123.add ((x5_2).toNat * 3)).block, (ad123.add ((x5_2).toNat * 3)).off + 1, none⟩ = some (.int .i64 ((rd_T65 l1 x5_2).f1)) ∧ w'.cell? ⟨(ad123.add ((x5_2).toNat * 3)).block, (ad123.add ((x5_2).toNat * 3)).off + 2, none⟩ = some (.int .i64 ((rd_T65 l1 x5_2).f2)) ∧ w'.cell? (ad123.add ((x5_2).toNat * 3)) = some (.int .i64 ((rd_T65 l1 x5_2).f0)) ∧ w'.cell? ⟨(ad123.add ((x5_2).toNat * 3)).block, (ad123.add ((x5_2).toNat * 3)).off + 1, none⟩ = some (.int .i64 ((rd_T65 l1 x5_2).f1)) ∧ w'.cell? ⟨(ad123.add ((x5_2).toNat * 3)).block, (ad123.add ((x5_2).toNat * 3)).off + 2, none⟩ = some (.int .i64 ((rd_T65 l1 x5_2).f2)) ∧ w'.cell? (ad123.add ((x5_2).toNat * 3)) = some (.int .i64 ((rd_T65 l1 x5_2).f0)) ∧ w'.cell? ⟨(ad123.add ((x5_2).toNat * 3)).block, (ad123.add ((x5_2).toNat * 3)).off + 1, none⟩ = some (.int .i64 ((rd_T65 l1 x5_2).f1)) ∧ w'.cell? ⟨(ad123.add ((x5_2).toNat * 3)).block, (ad123.add ((x5_2).toNat * 3)).off + 2, none⟩ = some (.int .i64 ((rd_T65 l1 x5_2).f2)) ∧ w'.cell? (ad123.add ((x5_2).toNat * 3)) = some (.int .i64 ((rd_T65 l1 x5_2).f0)) ∧ w'.cell? ⟨(ad123.add ((x5_2).toNat * 3)).block, (ad123.add ((x5_2).toNat * 3)).off + 1, none⟩ = some (.int .i64 ((rd_T65 l1 x5_2).f1)) ∧ w'.cell? ⟨(ad123.add ((x5_2).toNat * 3)).block, (ad123.add ((x5_2).toNat * 3)).off + 2, none⟩ = some (.int .i64 ((rd_T65 l1 x5_2).f2)) ∧ w'.cell? (ad123.add ((x5_2).toNat * 3)) = some (.int .i64 ((rd_T65 l1 x5_2).f0)) ∧ w'.cell? ⟨(ad123.add ((x5_2).toNat * 3)).block, (ad123.add ((x5_2).toNat * 3)).off + 1, none⟩ = some (.int .i64 ((rd_T65 l1 x5_2).f1)) ∧ w'.cell? ⟨(ad123.add ((x5_2).toNat * 3)).block, (ad123.add ((x5_2).toNat * 3)).off + 2, none⟩ = some (.int .i64 ((rd_T65 l1 x5_2).f2))) (ds := []) #[false, false, false, false, false, false, false, false, false, false, false, false, false, false, false, false, false, false, false, false, false, false, false, false, false, false, false, false, false, false, false, false, false, false, false] z13_ rfl rfl ⟨((HB.out.cell (bl_ _ _ hw124_0)).trans hw124_0), ((HB.out.cell (bl_ _ _ hw124_1)).trans hw124_1), ((HB.out.cell (bl_ _ _ hw124_2)).trans hw124_2), ((HB.out.cell (bl_ _ _ hw126_0)).trans hw126_0), ((HB.out.cell (bl_ _ _ hw126_1)).trans hw126_1), ((HB.out.cell (bl_ _ _ hw126_2)).trans hw126_2), ((HB.out.cell (bl_ _ _ hw128_0)).trans hw128_0), ((HB.out.cell (bl_ _ _ hw128_1)).trans hw128_1), ((HB.out.cell (bl_ _ _ hw128_2)).trans hw128_2), ((HB.out.cell (bl_ _ _ hw129_0)).trans hw129_0), ((HB.out.cell (bl_ _ _ hw129_1)).trans hw129_1), ((HB.out.cell (bl_ _ _ hw129_2)).trans hw129_2), ((HB.out.cell (bl_ _ _ hw130_0)).trans hw130_0), ((HB.out.cell (bl_ _ _ hw130_1)).trans hw130_1), ((HB.out.cell (bl_ _ _ hw130_2)).trans hw130_2)⟩ (fun hHeld => ?_); refine with_tabW spec_l02Ok.tab7 spec_l02Ok.bits7 (fun HT_ HW_ => ?_); generalize wr.drew = w17 at HB hx124_0 hx124_1 hx124_2 hx126_0 hx126_1 hx126_2 hx128_0 hx128_1 hx128_2 hx129_0 hx129_1 hx129_2 hx130_0 hx130_1 hx130_2 hHeld ⊢; refine pure_ (i := 0) (N := some 24) (v := ?_) (a' := ?_) #[true, false, false, false, false, false, false, false, false, false, false, false, false, false, false, false, false, false, false, false, false, false, false, false, false, false, false, false, false, false, false, false, false, false, false] rfl rfl (any_of HT_.out z13_) (fun _ _ _ h => h) (Or.inl ⟨by rfl, ?_⟩) ?_ ?_; rotate_left
                        · intro w'; go_simp; with_reducible rfl
                        rotate_left
                        · exact zp_
                        refine pure_ (i := 1) (N := some 25) (v := ?_) (a' := ?_) #[true, true, false, false, false, false, false, false, false, false, false, false, false, false, false, false, false, false, false, false, false, false, false, false, false, false, false, false, false, false, false, false, false, false, false] rfl rfl (any_of HT_.out z13_) (fun _ _ _ h => h) (Or.inl ⟨by rfl, ?_⟩) ?_ ?_; rotate_left
                        · intro w'; go_simp; with_reducible rfl
                        rotate_left
                        · exact zp_
                        refine pure_ (i := 2) (N := some 26) (v := ?_) (a' := ?_) #[true, true, true, false, false, false, false, false, false, false, false, false, false, false, false, false, false, false, false, false, false, false, false, false, false, false, false, false, false, false, false, false, false, false, false] rfl rfl (any_of HT_.out z13_) (fun _ _ _ h => h) (Or.inl ⟨by rfl, ?_⟩) ?_ ?_; rotate_left
                        · intro w'; go_simp; with_reducible rfl
                        rotate_left
                        · exact zp_
                        refine pure_ (i := 3) (N := some 27) (v := ?_) (a' := ?_) #[true, true, true, true, false, false, false, false, false, false, false, false, false, false, false, false, false, false, false, false, false, false, false, false, false, false, false, false, false, false, false, false, false, false, false] rfl rfl (any_of HT_.out z13_) (fun _ _ _ h => h) (Or.inl ⟨by rfl, ?_⟩) ?_ ?_; rotate_left
                        · intro w'; go_simp; with_reducible rfl
                        rotate_left
                        · exact zp_
                        refine take_ (i := 4) (N := some 28) (v := ?_) (a' := ?_) #[true, true, true, true, true, false, false, false, false, false, false, false, false, false, false, false, false, false, false, false, false, false, false, false, false, false, false, false, false, false, false, false, false, false, false] rfl rfl (take_ofW HT_.out HW_.out z13_) (fun _ _ _ h => h) (Or.inl ⟨by rfl, ?_⟩) hHeld ?_ ?_; rotate_left
                        · rintro w' ⟨s0, s1, s2, s3, s4, s5, s6, s7, s8, s9, s10, s11, s12, s13, s14⟩; go_simp; with_reducible rfl
                        rotate_left
                        · exact zp_
                        refine one_ (i := 5) (N := some 29) #[true, true, true, true, true, true, false, false, false, false, false, false, false, false, false, false, false, false, false, false, false, false, false, false, false, false, false, false, false, false, false, false, false, false, false] rfl rfl (one_of HT_.out z13_) (by decide) (fun K hK => ?_); refine goes_ Try.func66 z13_ rfl #[.int .i64 a0, .int .i64 ((rd_T65 l1 x5_2).f0)] (by rfl) rfl rfl z2_ ?_; (with_reducible refine (spec_l02Person.calls a0 ((rd_T65 l1 x5_2).f0) true _ A9.out).mono ?_); rintro e w' ⟨rfl, ⟨nd, rfl⟩⟩; refine ⟨_, rfl, ?_⟩; refine hK.out _ _ ⟨((HB.out.cell (bl_ _ _ hw124_0)).trans hw124_0), ((HB.out.cell (bl_ _ _ hw124_1)).trans hw124_1), ((HB.out.cell (bl_ _ _ hw124_2)).trans hw124_2), ((HB.out.cell (bl_ _ _ hw126_0)).trans hw126_0), ((HB.out.cell (bl_ _ _ hw126_1)).trans hw126_1), ((HB.out.cell (bl_ _ _ hw126_2)).trans hw126_2), ((HB.out.cell (bl_ _ _ hw128_0)).trans hw128_0), ((HB.out.cell (bl_ _ _ hw128_1)).trans hw128_1), ((HB.out.cell (bl_ _ _ hw128_2)).trans hw128_2), ((HB.out.cell (bl_ _ _ hw129_0)).trans hw129_0), ((HB.out.cell (bl_ _ _ hw129_1)).trans hw129_1), ((HB.out.cell (bl_ _ _ hw129_2)).trans hw129_2), ((HB.out.cell (bl_ _ _ hw130_0)).trans hw130_0), ((HB.out.cell (bl_ _ _ hw130_1)).trans hw130_1), ((HB.out.cell (bl_ _ _ hw130_2)).trans hw130_2)⟩ (fun hHeld => ?_); clear hK K; refine norm_ (a' := ?_) ?_ ?_; rotate_left
                        · show Act.put _ (some 29) _ = _; exact zp_
                        refine pure_ (i := 6) (N := some 30) (v := ?_) (a' := ?_) #[true, true, true, true, true, true, true, false, false, false, false, false, false, false, false, false, false, false, false, false, false, false, false, false, false, false, false, false, false, false, false, false, false, false, false] rfl rfl (any_of HT_.out z13_) (fun _ _ _ h => h) (Or.inl ⟨by rfl, ?_⟩) ?_ ?_; rotate_left
                        · intro w'; go_simp; with_reducible rfl
                        rotate_left
                        · exact zp_
                        refine pure_ (i := 7) (N := some 31) (v := ?_) (a' := ?_) #[true, true, true, true, true, true, true, true, false, false, false, false, false, false, false, false, false, false, false, false, false, false, false, false, false, false, false, false, false, false, false, false, false, false, false] rfl rfl (any_of HT_.out z13_) (fun _ _ _ h => h) (Or.inl ⟨by rfl, ?_⟩) ?_ ?_; rotate_left
                        · intro w'; go_simp; with_reducible rfl
                        rotate_left
                        · exact zp_
                        refine pure_ (i := 8) (N := some 32) (v := ?_) (a' := ?_) #[true, true, true, true, true, true, true, true, true, false, false, false, false, false, false, false, false, false, false, false, false, false, false, false, false, false, false, false, false, false, false, false, false, false, false] rfl rfl (any_of HT_.out z13_) (fun _ _ _ h => h) (Or.inl ⟨by rfl, ?_⟩) ?_ ?_; rotate_left
                        · intro w'; go_simp; with_reducible rfl
                        rotate_left
                        · exact zp_
                        refine pure_ (i := 9) (N := some 33) (v := ?_) (a' := ?_) #[true, true, true, true, true, true, true, true, true, true, false, false, false, false, false, false, false, false, false, false, false, false, false, false, false, false, false, false, false, false, false, false, false, false, false] rfl rfl (any_of HT_.out z13_) (fun _ _ _ h => h) (Or.inl ⟨by rfl, ?_⟩) ?_ ?_; rotate_left
                        · intro w'; go_simp; with_reducible rfl
                        rotate_left
                        · exact zp_
                        refine pure_ (i := 10) (N := some 34) (v := ?_) (a' := ?_) #[true, true, true, true, true, true, true, true, true, true, true, false, false, false, false, false, false, false, false, false, false, false, false, false, false, false, false, false, false, false, false, false, false, false, false] rfl rfl (any_of HT_.out z13_) (fun _ _ _ h => h) (Or.inl ⟨by rfl, ?_⟩) ?_ ?_; rotate_left
                        · intro w'; go_simp; with_reducible rfl
                        rotate_left
                        · exact zp_
                        refine pure_ (i := 11) (N := some 35) (v := ?_) (a' := ?_) #[true, true, true, true, true, true, true, true, true, true, true, true, false, false, false, false, false, false, false, false, false, false, false, false, false, false, false, false, false, false, false, false, false, false, false] rfl rfl (any_of HT_.out z13_) (fun _ _ _ h => h) (Or.inl ⟨by rfl, ?_⟩) ?_ ?_; rotate_left
                        · intro w'; go_simp; with_reducible rfl
                        rotate_left
                        · exact zp_
                        refine take_ (i := 12) (N := some 36) (v := ?_) (a' := ?_) #[true, true, true, true, true, true, true, true, true, true, true, true, true, false, false, false, false, false, false, false, false, false, false, false, false, false, false, false, false, false, false, false, false, false, false] rfl rfl (take_ofW HT_.out HW_.out z13_) (fun _ _ _ h => h) (Or.inl ⟨by rfl, ?_⟩) hHeld ?_ ?_; rotate_left
                        · rintro w' ⟨s0, s1, s2, s3, s4, s5, s6, s7, s8, s9, s10, s11, s12, s13, s14⟩; go_simp; with_reducible rfl
                        rotate_left
                        · exact zp_
                        refine one_ (i := 13) (N := some 37) #[true, true, true, true, true, true, true, true, true, true, true, true, true, true, false, false, false, false, false, false, false, false, false, false, false, false, false, false, false, false, false, false, false, false, false] rfl rfl (one_of HT_.out z13_) (by decide) (fun K hK => ?_); refine goes_ Try.func66 z13_ rfl #[.int .i64 a0, .int .i64 ((rd_T65 l1 x5_2).f1)] (by rfl) rfl rfl z2_ ?_; (with_reducible refine (spec_l02Person.calls a0 ((rd_T65 l1 x5_2).f1) true _ A11.out).mono ?_); rintro e w' ⟨rfl, ⟨nd, rfl⟩⟩; refine ⟨_, rfl, ?_⟩; refine hK.out _ _ ⟨((HB.out.cell (bl_ _ _ hw124_0)).trans hw124_0), ((HB.out.cell (bl_ _ _ hw124_1)).trans hw124_1), ((HB.out.cell (bl_ _ _ hw124_2)).trans hw124_2), ((HB.out.cell (bl_ _ _ hw126_0)).trans hw126_0), ((HB.out.cell (bl_ _ _ hw126_1)).trans hw126_1), ((HB.out.cell (bl_ _ _ hw126_2)).trans hw126_2), ((HB.out.cell (bl_ _ _ hw128_0)).trans hw128_0), ((HB.out.cell (bl_ _ _ hw128_1)).trans hw128_1), ((HB.out.cell (bl_ _ _ hw128_2)).trans hw128_2), ((HB.out.cell (bl_ _ _ hw129_0)).trans hw129_0), ((HB.out.cell (bl_ _ _ hw129_1)).trans hw129_1), ((HB.out.cell (bl_ _ _ hw129_2)).trans hw129_2), ((HB.out.cell (bl_ _ _ hw130_0)).trans hw130_0), ((HB.out.cell (bl_ _ _ hw130_1)).trans hw130_1), ((HB.out.cell (bl_ _ _ hw130_2)).trans hw130_2)⟩ (fun hHeld => ?_); clear hK K; refine norm_ (a' := ?_) ?_ ?_; rotate_left
                        · show Act.put _ (some 37) _ = _; exact zp_
                        refine pure_ (i := 14) (N := some 38) (v := ?_) (a' := ?_) #[true, true, true, true, true, true, true, true, true, true, true, true, true, true, true, false, false, false, false, false, false, false, false, false, false, false, false, false, false, false, false, false, false, false, false] rfl rfl (any_of HT_.out z13_) (fun _ _ _ h => h) (Or.inl ⟨by rfl, ?_⟩) ?_ ?_; rotate_left
                        · intro w'; go_simp; with_reducible rfl
                        rotate_left
                        · exact zp_
                        refine pure_ (i := 15) (N := some 39) (v := ?_) (a' := ?_) #[true, true, true, true, true, true, true, true, true, true, true, true, true, true, true, true, false, false, false, false, false, false, false, false, false, false, false, false, false, false, false, false, false, false, false] rfl rfl (any_of HT_.out z13_) (fun _ _ _ h => h) (Or.inl ⟨by rfl, ?_⟩) ?_ ?_; rotate_left
                        · intro w'; go_simp; with_reducible rfl
                        rotate_left
                        · exact zp_
                        refine pure_ (i := 16) (N := some 40) (v := ?_) (a' := ?_) #[true, true, true, true, true, true, true, true, true, true, true, true, true, true, true, true, true, false, false, false, false, false, false, false, false, false, false, false, false, false, false, false, false, false, false] rfl rfl (any_of HT_.out z13_) (fun _ _ _ h => h) (Or.inl ⟨by rfl, ?_⟩) ?_ ?_; rotate_left
                        · intro w'; go_simp; with_reducible rfl
                        rotate_left
                        · exact zp_
                        refine pure_ (i := 17) (N := some 41) (v := ?_) (a' := ?_) #[true, true, true, true, true, true, true, true, true, true, true, true, true, true, true, true, true, true, false, false, false, false, false, false, false, false, false, false, false, false, false, false, false, false, false] rfl rfl (any_of HT_.out z13_) (fun _ _ _ h => h) (Or.inl ⟨by rfl, ?_⟩) ?_ ?_; rotate_left
                        · intro w'; go_simp; with_reducible rfl
                        rotate_left
                        · exact zp_
                        refine pure_ (i := 18) (N := some 42) (v := ?_) (a' := ?_) #[true, true, true, true, true, true, true, true, true, true, true, true, true, true, true, true, true, true, true, false, false, false, false, false, false, false, false, false, false, false, false, false, false, false, false] rfl rfl (any_of HT_.out z13_) (fun _ _ _ h => h) (Or.inl ⟨by rfl, ?_⟩) ?_ ?_; rotate_left
                        · intro w'; go_simp; with_reducible rfl
                        rotate_left
                        · exact zp_
                        refine pure_ (i := 19) (N := some 43) (v := ?_) (a' := ?_) #[true, true, true, true, true, true, true, true, true, true, true, true, true, true, true, true, true, true, true, true, false, false, false, false, false, false, false, false, false, false, false, false, false, false, false] rfl rfl (any_of HT_.out z13_) (fun _ _ _ h => h) (Or.inl ⟨by rfl, ?_⟩) ?_ ?_; rotate_left
                        · intro w'; go_simp; with_reducible rfl
                        rotate_left
                        · exact zp_
                        refine pure_ (i := 21) (N := some 45) (v := ?_) (a' := ?_) #[true, true, true, true, true, true, true, true, true, true, true, true, true, true, true, true, true, true, true, true, false, true, false, false, false, false, false, false, false, false, false, false, false, false, false] rfl rfl (any_of HT_.out z13_) (fun _ _ _ h => h) (Or.inl ⟨by rfl, ?_⟩) ?_ ?_; rotate_left
                        · intro w'; go_simp; with_reducible rfl
                        rotate_left
                        · exact zp_
                        refine pure_ (i := 22) (N := some 46) (v := ?_) (a' := ?_) #[true, true, true, true, true, true, true, true, true, true, true, true, true, true, true, true, true, true, true, true, false, true, true, false, false, false, false, false, false, false, false, false, false, false, false] rfl rfl (any_of HT_.out z13_) (fun _ _ _ h => h) (Or.inl ⟨by rfl, ?_⟩) ?_ ?_; rotate_left
                        · intro w'; go_simp; with_reducible rfl
                        rotate_left
                        · exact zp_
                        refine pure_ (i := 23) (N := some 47) (v := ?_) (a' := ?_) #[true, true, true, true, true, true, true, true, true, true, true, true, true, true, true, true, true, true, true, true, false, true, true, true, false, false, false, false, false, false, false, false, false, false, false] rfl rfl (any_of HT_.out z13_) (fun _ _ _ h => h) (Or.inl ⟨by rfl, ?_⟩) ?_ ?_; rotate_left
                        · intro w'; go_simp; with_reducible rfl
                        rotate_left
                        · exact zp_
                        refine take_ (i := 20) (N := some 44) (v := ?_) (a' := ?_) #[true, true, true, true, true, true, true, true, true, true, true, true, true, true, true, true, true, true, true, true, true, true, true, true, false, false, false, false, false, false, false, false, false, false, false] rfl rfl (take_ofW HT_.out HW_.out z13_) (fun _ _ _ h => h) (Or.inl ⟨by rfl, ?_⟩) hHeld ?_ ?_; rotate_left
                        · rintro w' ⟨s0, s1, s2, s3, s4, s5, s6, s7, s8, s9, s10, s11, s12, s13, s14⟩; go_simp; with_reducible rfl
                        rotate_left
                        · exact zp_
                        refine take_ (i := 24) (N := some 48) (v := ?_) (a' := ?_) #[true, true, true, true, true, true, true, true, true, true, true, true, true, true, true, true, true, true, true, true, true, true, true, true, true, false, false, false, false, false, false, false, false, false, false] rfl rfl (take_ofW HT_.out HW_.out z13_) (fun _ _ _ h => h) (Or.inl ⟨by rfl, ?_⟩) hHeld ?_ ?_; rotate_left
                        · rintro w' ⟨s0, s1, s2, s3, s4, s5, s6, s7, s8, s9, s10, s11, s12, s13, s14⟩; go_simp; with_reducible rfl
                        rotate_left
                        · exact zp_
                        refine pure_ (i := 25) (N := some 49) (v := ?_) (a' := ?_) #[true, true, true, true, true, true, true, true, true, true, true, true, true, true, true, true, true, true, true, true, true, true, true, true, true, true, false, false, false, false, false, false, false, false, false] rfl rfl (any_of HT_.out z13_) (fun _ _ _ h => h) (Or.inl ⟨by rfl, ?_⟩) ?_ ?_; rotate_left
                        · intro w'; go_simp; with_reducible rfl
                        rotate_left
                        · exact zp_
                        refine pure_ (i := 26) (N := some 50) (v := ?_) (a' := ?_) #[true, true, true, true, true, true, true, true, true, true, true, true, true, true, true, true, true, true, true, true, true, true, true, true, true, true, true, false, false, false, false, false, false, false, false] rfl rfl (any_of HT_.out z13_) (fun _ _ _ h => h) (Or.inl ⟨by rfl, ?_⟩) ?_ ?_; rotate_left
                        · intro w'; go_simp; with_reducible rfl
                        rotate_left
                        · exact zp_
                        refine pure_ (i := 27) (N := some 51) (v := ?_) (a' := ?_) #[true, true, true, true, true, true, true, true, true, true, true, true, true, true, true, true, true, true, true, true, true, true, true, true, true, true, true, true, false, false, false, false, false, false, false] rfl rfl (any_of HT_.out z13_) (fun _ _ _ h => h) (Or.inl ⟨by rfl, ?_⟩) ?_ ?_; rotate_left
                        · intro w'; go_simp; with_reducible rfl
                        rotate_left
                        · exact zp_
                        refine pure_ (i := 28) (N := some 52) (v := ?_) (a' := ?_) #[true, true, true, true, true, true, true, true, true, true, true, true, true, true, true, true, true, true, true, true, true, true, true, true, true, true, true, true, true, false, false, false, false, false, false] rfl rfl (any_of HT_.out z13_) (fun _ _ _ h => h) (Or.inl ⟨by rfl, ?_⟩) ?_ ?_; rotate_left
                        · intro w'; go_simp; with_reducible rfl
                        rotate_left
                        · exact zp_
                        refine pure_ (i := 29) (N := some 53) (v := ?_) (a' := ?_) #[true, true, true, true, true, true, true, true, true, true, true, true, true, true, true, true, true, true, true, true, true, true, true, true, true, true, true, true, true, true, false, false, false, false, false] rfl rfl (any_of HT_.out z13_) (fun _ _ _ h => h) (Or.inl ⟨by rfl, ?_⟩) ?_ ?_; rotate_left
                        · intro w'; go_simp; with_reducible rfl
                        rotate_left
                        · exact zp_
                        refine pure_ (i := 30) (N := some 54) (v := ?_) (a' := ?_) #[true, true, true, true, true, true, true, true, true, true, true, true, true, true, true, true, true, true, true, true, true, true, true, true, true, true, true, true, true, true, true, false, false, false, false] rfl rfl (any_of HT_.out z13_) (fun _ _ _ h => h) (Or.inl ⟨by rfl, ?_⟩) ?_ ?_; rotate_left
                        · intro w'; go_simp; with_reducible rfl
                        rotate_left
                        · exact zp_
                        refine take_ (i := 31) (N := some 55) (v := ?_) (a' := ?_) #[true, true, true, true, true, true, true, true, true, true, true, true, true, true, true, true, true, true, true, true, true, true, true, true, true, true, true, true, true, true, true, true, false, false, false] rfl rfl (take_ofW HT_.out HW_.out z13_) (fun _ _ _ h => h) (Or.inl ⟨by rfl, ?_⟩) hHeld ?_ ?_; rotate_left
                        · rintro w' ⟨s0, s1, s2, s3, s4, s5, s6, s7, s8, s9, s10, s11, s12, s13, s14⟩; go_simp; with_reducible rfl
                        rotate_left
                        · exact zp_
                        refine one_ (i := 32) (N := some 56) #[true, true, true, true, true, true, true, true, true, true, true, true, true, true, true, true, true, true, true, true, true, true, true, true, true, true, true, true, true, true, true, true, true, false, false] rfl rfl (one_of HT_.out z13_) (by decide) (fun K hK => ?_); refine goes_ Try.func72 z13_ rfl #[.int .i64 ((rd_T65 l1 x5_2).f2), .int .i64 1, .int .i64 100000000] (by rfl) rfl rfl z2_ ?_; (with_reducible refine (spec_l00In.calls ((rd_T65 l1 x5_2).f2) 1 100000000 true _ A15.out).mono ?_); rintro e w' ⟨rfl, ⟨nd, rfl⟩⟩; refine ⟨_, rfl, ?_⟩; refine hK.out _ _ ⟨((HB.out.cell (bl_ _ _ hw124_0)).trans hw124_0), ((HB.out.cell (bl_ _ _ hw124_1)).trans hw124_1), ((HB.out.cell (bl_ _ _ hw124_2)).trans hw124_2), ((HB.out.cell (bl_ _ _ hw126_0)).trans hw126_0), ((HB.out.cell (bl_ _ _ hw126_1)).trans hw126_1), ((HB.out.cell (bl_ _ _ hw126_2)).trans hw126_2), ((HB.out.cell (bl_ _ _ hw128_0)).trans hw128_0), ((HB.out.cell (bl_ _ _ hw128_1)).trans hw128_1), ((HB.out.cell (bl_ _ _ hw128_2)).trans hw128_2), ((HB.out.cell (bl_ _ _ hw129_0)).trans hw129_0), ((HB.out.cell (bl_ _ _ hw129_1)).trans hw129_1), ((HB.out.cell (bl_ _ _ hw129_2)).trans hw129_2), ((HB.out.cell (bl_ _ _ hw130_0)).trans hw130_0), ((HB.out.cell (bl_ _ _ hw130_1)).trans hw130_1), ((HB.out.cell (bl_ _ _ hw130_2)).trans hw130_2)⟩ (fun hHeld => ?_); clear hK K; refine norm_ (a' := ?_) ?_ ?_; rotate_left
                        · show Act.put _ (some 56) _ = _; exact zp_
                        refine pure_ (i := 33) (N := some 57) (v := ?_) (a' := ?_) #[true, true, true, true, true, true, true, true, true, true, true, true, true, true, true, true, true, true, true, true, true, true, true, true, true, true, true, true, true, true, true, true, true, true, false] rfl rfl (any_of HT_.out z13_) (fun _ _ _ h => h) (Or.inl ⟨by rfl, ?_⟩) ?_ ?_; rotate_left
                        · intro w'; go_simp; with_reducible rfl
                        rotate_left
                        · exact zp_
                        refine pure_ (i := 34) (N := some 58) (v := ?_) (a' := ?_) #[true, true, true, true, true, true, true, true, true, true, true, true, true, true, true, true, true, true, true, true, true, true, true, true, true, true, true, true, true, true, true, true, true, true, true] rfl rfl (any_of HT_.out z13_) (fun _ _ _ h => h) (Or.inl ⟨by rfl, ?_⟩) ?_ ?_; rotate_left
                        · intro w'; go_simp; with_reducible rfl
                        rotate_left
                        · exact zp_
                        refine done_ (done_of HT_.out z13_) ?_; (try go_wp2); go_roundg k2
                        case measure => have := HJ2.out; have := HK2.out; omega
                        case rel => exact ⟨(wrap64 (x5_2 + 1)), z11_, H', ⟨by have := HJ2.out; have := HK2.out; omega⟩, ⟨z0_⟩⟩
                      · replace c16 := Bool.eq_false_iff.mpr c16; subst c16; (have H1 : (some false) = some r := z17_); clear H; have H := H1; clear H1; obtain rfl := Option.some.inj H; have p123 : 0 ≤ (x5_2 : Int) := of_decide_eq_true z3_; have q123 : x5_2 < (l1.length : Int) := of_decide_eq_true z3_; obtain ⟨ad123, e123, hx123_0, hx123_1, hx123_2⟩ := at_T65 HR1.out x5_2 p123 q123; cases e123; replace hx123_0 := (HB.out.cell (bl_ w _ hx123_0)).trans hx123_0; replace hx123_1 := (HB.out.cell (bl_ w _ hx123_1)).trans hx123_1; replace hx123_2 := (HB.out.cell (bl_ w _ hx123_2)).trans hx123_2; replace p123 := eq_true p123; replace q123 := eq_true q123; (try go_wp2); have n0_ := A_ (below_drew1 HB.out); clear HB; have HB := n0_; clear n0_; have p124 : 0 ≤ (x5_2 : Int) := of_decide_eq_true z3_; have q124 : x5_2 < (l1.length : Int) := of_decide_eq_true z3_; obtain ⟨ad124, e124, hx124_0, hx124_1, hx124_2⟩ := at_T65 HR1.out x5_2 p124 q124; have hw124_2 := hx124_2; have hw124_1 := hx124_1; have hw124_0 := hx124_0; obtain rfl : ad123 = ad124 := (by injection e124); replace hx124_0 := (HB.out.cell (bl_ w _ hx124_0)).trans hx124_0; replace hx124_1 := (HB.out.cell (bl_ w _ hx124_1)).trans hx124_1; replace hx124_2 := (HB.out.cell (bl_ w _ hx124_2)).trans hx124_2; replace p124 := eq_true p124; replace q124 := eq_true q124; have p126 : 0 ≤ (x5_2 : Int) := of_decide_eq_true z3_; have q126 : x5_2 < (l1.length : Int) := of_decide_eq_true z3_; obtain ⟨ad126, e126, hx126_0, hx126_1, hx126_2⟩ := at_T65 HR1.out x5_2 p126 q126; have hw126_2 := hx126_2; have hw126_1 := hx126_1; have hw126_0 := hx126_0; obtain rfl : ad123 = ad126 := (by injection e126); replace hx126_0 := (HB.out.cell (bl_ w _ hx126_0)).trans hx126_0; replace hx126_1 := (HB.out.cell (bl_ w _ hx126_1)).trans hx126_1; replace hx126_2 := (HB.out.cell (bl_ w _ hx126_2)).trans hx126_2; replace p126 := eq_true p126; replace q126 := eq_true q126; have p128 : 0 ≤ (x5_2 : Int) := of_decide_eq_true z3_; have q128 : x5_2 < (l1.length : Int) := of_decide_eq_true z3_; obtain ⟨ad128, e128, hx128_0, hx128_1, hx128_2⟩ := at_T65 HR1.out x5_2 p128 q128; have hw128_2 := hx128_2; have hw128_1 := hx128_1; have hw128_0 := hx128_0; obtain rfl : ad123 = ad128 := (by injection e128); replace hx128_0 := (HB.out.cell (bl_ w _ hx128_0)).trans hx128_0; replace hx128_1 := (HB.out.cell (bl_ w _ hx128_1)).trans hx128_1; replace hx128_2 := (HB.out.cell (bl_ w _ hx128_2)).trans hx128_2; replace p128 := eq_true p128; replace q128 := eq_true q128; have p129 : 0 ≤ (x5_2 : Int) := of_decide_eq_true z3_; have q129 : x5_2 < (l1.length : Int) := of_decide_eq_true z3_; obtain ⟨ad129, e129, hx129_0, hx129_1, hx129_2⟩ := at_T65 HR1.out x5_2 p129 q129; have hw129_2 := hx129_2; have hw129_1 := hx129_1; have hw129_0 := hx129_0; obtain rfl : ad123 = ad129 := (by injection e129); replace hx129_0 := (HB.out.cell (bl_ w _ hx129_0)).trans hx129_0; replace hx129_1 := (HB.out.cell (bl_ w _ hx129_1)).trans hx129_1; replace hx129_2 := (HB.out.cell (bl_ w _ hx129_2)).trans hx129_2; replace p129 := eq_true p129; replace q129 := eq_true q129; have p130 : 0 ≤ (x5_2 : Int) := of_decide_eq_true z3_; have q130 : x5_2 < (l1.length : Int) := of_decide_eq_true z3_; obtain ⟨ad130, e130, hx130_0, hx130_1, hx130_2⟩ := at_T65 HR1.out x5_2 p130 q130; have hw130_2 := hx130_2; have hw130_1 := hx130_1; have hw130_0 := hx130_0; obtain rfl : ad123 = ad130 := (by injection e130); replace hx130_0 := (HB.out.cell (bl_ w _ hx130_0)).trans hx130_0; replace hx130_1 := (HB.out.cell (bl_ w _ hx130_1)).trans hx130_1; replace hx130_2 := (HB.out.cell (bl_ w _ hx130_2)).trans hx130_2; replace p130 := eq_true p130; replace q130 := eq_true q130; refine start_ (n := 35) (S := fun w' => w'.cell? (ad123.add ((x5_2).toNat * 3)) = some (.int .i64 ((rd_T65 l1 x5_2).f0)) ∧ w'.cell? ⟨(ad123.add ((x5_2).toNat * 3)).block, (ad123.add ((x5_2).toNat * 3)).off + 1, none⟩ = some (.int .i64 ((rd_T65 l1 x5_2).f1)) ∧ w'.cell? ⟨(ad123.add ((x5_2).toNat * 3)).block, (ad123.add ((x5_2).toNat * 3)).off + 2, none⟩ = some (.int .i64 ((rd_T65 l1 x5_2).f2)) ∧ w'.cell? (ad123.add ((x5_2).toNat * 3)) = some (.int .i64 ((rd_T65 l1 x5_2).f0)) ∧ w'.cell? ⟨(ad123.add ((x5_2).toNat * 3)).block, (ad123.add ((x5_2).toNat * 3)).off + 1, none⟩ = some (.int .i64 ((rd_T65 l1 x5_2).f1)) ∧ w'.cell? ⟨(ad123.add ((x5_2).toNat * 3)).block, (ad123.add ((x5_2).toNat * 3)).off + 2, none⟩ = some (.int .i64 ((rd_T65 l1 x5_2).f2)) ∧ w'.cell? (ad123.add ((x5_2).toNat * 3)) = some (.int .i64 ((rd_T65 l1 x5_2).f0)) ∧ w'.cell? ⟨(ad123.add ((x5_2).toNat * 3)).block, (ad123.add ((x5_2).toNat * 3)).off + 1, none⟩ = some (.int .i64 ((rd_T65 l1 x5_2).f1)) ∧ w'.cell? ⟨(ad123.add ((x5_2).toNat * 3)).block, (ad123.add ((x5_2).toNat * 3)).off + 2, none⟩ = some (.int .i64 ((rd_T65 l1 x5_2).f2)) ∧ w'.cell? (ad123.add ((x5_2).toNat * 3)) = some (.int .i64 ((rd_T65 l1 x5_2).f0)) ∧ w'.cell? ⟨(ad123.add ((x5_2).toNat * 3)).block, (ad123.add ((x5_2).toNat * 3)).off + 1, none⟩ = some (.int .i64 ((rd_T65 l1 x5_2).f1)) ∧ w'.cell? ⟨(ad123.add ((x5_2).toNat * 3)).block, (ad123.add ((x5_2).toNat * 3)).off + 2, none⟩ = some (.int .i64 ((rd_T65 l1 x5_2).f2)) ∧ w'.cell? (ad123.add ((x5_2).toNat * 3)) = some (.int .i64 ((rd_T65 l1 x5_2).f0)) ∧ w'.cell? ⟨(ad123.add ((x5_2).toNat * 3)).block, (ad123.add ((x5_2).toNat * 3)).off + 1, none⟩ = some (.int .i64 ((rd_T65 l1 x5_2).f1)) ∧ w'.cell? ⟨(ad123.add ((x5_2).toNat * 3)).block, (ad123.add ((x5_2).toNat * 3)).off + 2, none⟩ = some (.int .i64 ((rd_T65 l1 x5_2).f2))) (ds := []) #[false, false, false, false, false, false, false, false, false, false, false, false, false, false, false, false, false, false, false, false, false, false, false, false, false, false, false, false, false, false, false, false, false, false, false] z13_ rfl rfl ⟨((HB.out.cell (bl_ _ _ hw124_0)).trans hw124_0), ((HB.out.cell (bl_ _ _ hw124_1)).trans hw124_1), ((HB.out.cell (bl_ _ _ hw124_2)).trans hw124_2), ((HB.out.cell (bl_ _ _ hw126_0)).trans hw126_0), ((HB.out.cell (bl_ _ _ hw126_1)).trans hw126_1), ((HB.out.cell (bl_ _ _ hw126_2)).trans hw126_2), ((HB.out.cell (bl_ _ _ hw128_0)).trans hw128_0), ((HB.out.cell (bl_ _ _ hw128_1)).trans hw128_1), ((HB.out.cell (bl_ _ _ hw128_2)).trans hw128_2), ((HB.out.cell (bl_ _ _ hw129_0)).trans hw129_0), ((HB.out.cell (bl_ _ _ hw129_1)).trans hw129_1), ((HB.out.cell (bl_ _ _ hw129_2)).trans hw129_2), ((HB.out.cell (bl_ _ _ hw130_0)).trans hw130_0), ((HB.out.cell (bl_ _ _ hw130_1)).trans hw130_1), ((HB.out.cell (bl_ _ _ hw130_2)).trans hw130_2)⟩ (fun hHeld => ?_); refine with_tabW spec_l02Ok.tab7 spec_l02Ok.bits7 (fun HT_ HW_ => ?_); generalize wr.drew = w18 at HB hx124_0 hx124_1 hx124_2 hx126_0 hx126_1 hx126_2 hx128_0 hx128_1 hx128_2 hx129_0 hx129_1 hx129_2 hx130_0 hx130_1 hx130_2 hHeld ⊢; refine pure_ (i := 0) (N := some 24) (v := ?_) (a' := ?_) #[true, false, false, false, false, false, false, false, false, false, false, false, false, false, false, false, false, false, false, false, false, false, false, false, false, false, false, false, false, false, false, false, false, false, false] rfl rfl (any_of HT_.out z13_) (fun _ _ _ h => h) (Or.inl ⟨by rfl, ?_⟩) ?_ ?_; rotate_left
                        · intro w'; go_simp; with_reducible rfl
                        rotate_left
                        · exact zp_
                        refine pure_ (i := 1) (N := some 25) (v := ?_) (a' := ?_) #[true, true, false, false, false, false, false, false, false, false, false, false, false, false, false, false, false, false, false, false, false, false, false, false, false, false, false, false, false, false, false, false, false, false, false] rfl rfl (any_of HT_.out z13_) (fun _ _ _ h => h) (Or.inl ⟨by rfl, ?_⟩) ?_ ?_; rotate_left
                        · intro w'; go_simp; with_reducible rfl
                        rotate_left
                        · exact zp_
                        refine pure_ (i := 2) (N := some 26) (v := ?_) (a' := ?_) #[true, true, true, false, false, false, false, false, false, false, false, false, false, false, false, false, false, false, false, false, false, false, false, false, false, false, false, false, false, false, false, false, false, false, false] rfl rfl (any_of HT_.out z13_) (fun _ _ _ h => h) (Or.inl ⟨by rfl, ?_⟩) ?_ ?_; rotate_left
                        · intro w'; go_simp; with_reducible rfl
                        rotate_left
                        · exact zp_
                        refine pure_ (i := 3) (N := some 27) (v := ?_) (a' := ?_) #[true, true, true, true, false, false, false, false, false, false, false, false, false, false, false, false, false, false, false, false, false, false, false, false, false, false, false, false, false, false, false, false, false, false, false] rfl rfl (any_of HT_.out z13_) (fun _ _ _ h => h) (Or.inl ⟨by rfl, ?_⟩) ?_ ?_; rotate_left
                        · intro w'; go_simp; with_reducible rfl
                        rotate_left
                        · exact zp_
                        refine take_ (i := 4) (N := some 28) (v := ?_) (a' := ?_) #[true, true, true, true, true, false, false, false, false, false, false, false, false, false, false, false, false, false, false, false, false, false, false, false, false, false, false, false, false, false, false, false, false, false, false] rfl rfl (take_ofW HT_.out HW_.out z13_) (fun _ _ _ h => h) (Or.inl ⟨by rfl, ?_⟩) hHeld ?_ ?_; rotate_left
                        · rintro w' ⟨s0, s1, s2, s3, s4, s5, s6, s7, s8, s9, s10, s11, s12, s13, s14⟩; go_simp; with_reducible rfl
                        rotate_left
                        · exact zp_
                        refine one_ (i := 5) (N := some 29) #[true, true, true, true, true, true, false, false, false, false, false, false, false, false, false, false, false, false, false, false, false, false, false, false, false, false, false, false, false, false, false, false, false, false, false] rfl rfl (one_of HT_.out z13_) (by decide) (fun K hK => ?_); refine goes_ Try.func66 z13_ rfl #[.int .i64 a0, .int .i64 ((rd_T65 l1 x5_2).f0)] (by rfl) rfl rfl z2_ ?_; (with_reducible refine (spec_l02Person.calls a0 ((rd_T65 l1 x5_2).f0) true _ A9.out).mono ?_); rintro e w' ⟨rfl, ⟨nd, rfl⟩⟩; refine ⟨_, rfl, ?_⟩; refine hK.out _ _ ⟨((HB.out.cell (bl_ _ _ hw124_0)).trans hw124_0), ((HB.out.cell (bl_ _ _ hw124_1)).trans hw124_1), ((HB.out.cell (bl_ _ _ hw124_2)).trans hw124_2), ((HB.out.cell (bl_ _ _ hw126_0)).trans hw126_0), ((HB.out.cell (bl_ _ _ hw126_1)).trans hw126_1), ((HB.out.cell (bl_ _ _ hw126_2)).trans hw126_2), ((HB.out.cell (bl_ _ _ hw128_0)).trans hw128_0), ((HB.out.cell (bl_ _ _ hw128_1)).trans hw128_1), ((HB.out.cell (bl_ _ _ hw128_2)).trans hw128_2), ((HB.out.cell (bl_ _ _ hw129_0)).trans hw129_0), ((HB.out.cell (bl_ _ _ hw129_1)).trans hw129_1), ((HB.out.cell (bl_ _ _ hw129_2)).trans hw129_2), ((HB.out.cell (bl_ _ _ hw130_0)).trans hw130_0), ((HB.out.cell (bl_ _ _ hw130_1)).trans hw130_1), ((HB.out.cell (bl_ _ _ hw130_2)).trans hw130_2)⟩ (fun hHeld => ?_); clear hK K; refine norm_ (a' := ?_) ?_ ?_; rotate_left
                        · show Act.put _ (some 29) _ = _; exact zp_
                        refine pure_ (i := 6) (N := some 30) (v := ?_) (a' := ?_) #[true, true, true, true, true, true, true, false, false, false, false, false, false, false, false, false, false, false, false, false, false, false, false, false, false, false, false, false, false, false, false, false, false, false, false] rfl rfl (any_of HT_.out z13_) (fun _ _ _ h => h) (Or.inl ⟨by rfl, ?_⟩) ?_ ?_; rotate_left
                        · intro w'; go_simp; with_reducible rfl
                        rotate_left
                        · exact zp_
                        refine pure_ (i := 7) (N := some 31) (v := ?_) (a' := ?_) #[true, true, true, true, true, true, true, true, false, false, false, false, false, false, false, false, false, false, false, false, false, false, false, false, false, false, false, false, false, false, false, false, false, false, false] rfl rfl (any_of HT_.out z13_) (fun _ _ _ h => h) (Or.inl ⟨by rfl, ?_⟩) ?_ ?_; rotate_left
                        · intro w'; go_simp; with_reducible rfl
                        rotate_left
                        · exact zp_
                        refine pure_ (i := 8) (N := some 32) (v := ?_) (a' := ?_) #[true, true, true, true, true, true, true, true, true, false, false, false, false, false, false, false, false, false, false, false, false, false, false, false, false, false, false, false, false, false, false, false, false, false, false] rfl rfl (any_of HT_.out z13_) (fun _ _ _ h => h) (Or.inl ⟨by rfl, ?_⟩) ?_ ?_; rotate_left
                        · intro w'; go_simp; with_reducible rfl
                        rotate_left
                        · exact zp_
                        refine pure_ (i := 9) (N := some 33) (v := ?_) (a' := ?_) #[true, true, true, true, true, true, true, true, true, true, false, false, false, false, false, false, false, false, false, false, false, false, false, false, false, false, false, false, false, false, false, false, false, false, false] rfl rfl (any_of HT_.out z13_) (fun _ _ _ h => h) (Or.inl ⟨by rfl, ?_⟩) ?_ ?_; rotate_left
                        · intro w'; go_simp; with_reducible rfl
                        rotate_left
                        · exact zp_
                        refine pure_ (i := 10) (N := some 34) (v := ?_) (a' := ?_) #[true, true, true, true, true, true, true, true, true, true, true, false, false, false, false, false, false, false, false, false, false, false, false, false, false, false, false, false, false, false, false, false, false, false, false] rfl rfl (any_of HT_.out z13_) (fun _ _ _ h => h) (Or.inl ⟨by rfl, ?_⟩) ?_ ?_; rotate_left
                        · intro w'; go_simp; with_reducible rfl
                        rotate_left
                        · exact zp_
                        refine pure_ (i := 11) (N := some 35) (v := ?_) (a' := ?_) #[true, true, true, true, true, true, true, true, true, true, true, true, false, false, false, false, false, false, false, false, false, false, false, false, false, false, false, false, false, false, false, false, false, false, false] rfl rfl (any_of HT_.out z13_) (fun _ _ _ h => h) (Or.inl ⟨by rfl, ?_⟩) ?_ ?_; rotate_left
                        · intro w'; go_simp; with_reducible rfl
                        rotate_left
                        · exact zp_
                        refine take_ (i := 12) (N := some 36) (v := ?_) (a' := ?_) #[true, true, true, true, true, true, true, true, true, true, true, true, true, false, false, false, false, false, false, false, false, false, false, false, false, false, false, false, false, false, false, false, false, false, false] rfl rfl (take_ofW HT_.out HW_.out z13_) (fun _ _ _ h => h) (Or.inl ⟨by rfl, ?_⟩) hHeld ?_ ?_; rotate_left
                        · rintro w' ⟨s0, s1, s2, s3, s4, s5, s6, s7, s8, s9, s10, s11, s12, s13, s14⟩; go_simp; with_reducible rfl
                        rotate_left
                        · exact zp_
                        refine one_ (i := 13) (N := some 37) #[true, true, true, true, true, true, true, true, true, true, true, true, true, true, false, false, false, false, false, false, false, false, false, false, false, false, false, false, false, false, false, false, false, false, false] rfl rfl (one_of HT_.out z13_) (by decide) (fun K hK => ?_); refine goes_ Try.func66 z13_ rfl #[.int .i64 a0, .int .i64 ((rd_T65 l1 x5_2).f1)] (by rfl) rfl rfl z2_ ?_; (with_reducible refine (spec_l02Person.calls a0 ((rd_T65 l1 x5_2).f1) true _ A11.out).mono ?_); rintro e w' ⟨rfl, ⟨nd, rfl⟩⟩; refine ⟨_, rfl, ?_⟩; refine hK.out _ _ ⟨((HB.out.cell (bl_ _ _ hw124_0)).trans hw124_0), ((HB.out.cell (bl_ _ _ hw124_1)).trans hw124_1), ((HB.out.cell (bl_ _ _ hw124_2)).trans hw124_2), ((HB.out.cell (bl_ _ _ hw126_0)).trans hw126_0), ((HB.out.cell (bl_ _ _ hw126_1)).trans hw126_1), ((HB.out.cell (bl_ _ _ hw126_2)).trans hw126_2), ((HB.out.cell (bl_ _ _ hw128_0)).trans hw128_0), ((HB.out.cell (bl_ _ _ hw128_1)).trans hw128_1), ((HB.out.cell (bl_ _ _ hw128_2)).trans hw128_2), ((HB.out.cell (bl_ _ _ hw129_0)).trans hw129_0), ((HB.out.cell (bl_ _ _ hw129_1)).trans hw129_1), ((HB.out.cell (bl_ _ _ hw129_2)).trans hw129_2), ((HB.out.cell (bl_ _ _ hw130_0)).trans hw130_0), ((HB.out.cell (bl_ _ _ hw130_1)).trans hw130_1), ((HB.out.cell (bl_ _ _ hw130_2)).trans hw130_2)⟩ (fun hHeld => ?_); clear hK K; refine norm_ (a' := ?_) ?_ ?_; rotate_left
                        · show Act.put _ (some 37) _ = _; exact zp_
                        refine pure_ (i := 14) (N := some 38) (v := ?_) (a' := ?_) #[true, true, true, true, true, true, true, true, true, true, true, true, true, true, true, false, false, false, false, false, false, false, false, false, false, false, false, false, false, false, false, false, false, false, false] rfl rfl (any_of HT_.out z13_) (fun _ _ _ h => h) (Or.inl ⟨by rfl, ?_⟩) ?_ ?_; rotate_left
                        · intro w'; go_simp; with_reducible rfl
                        rotate_left
                        · exact zp_
                        refine pure_ (i := 15) (N := some 39) (v := ?_) (a' := ?_) #[true, true, true, true, true, true, true, true, true, true, true, true, true, true, true, true, false, false, false, false, false, false, false, false, false, false, false, false, false, false, false, false, false, false, false] rfl rfl (any_of HT_.out z13_) (fun _ _ _ h => h) (Or.inl ⟨by rfl, ?_⟩) ?_ ?_; rotate_left
                        · intro w'; go_simp; with_reducible rfl
                        rotate_left
                        · exact zp_
                        refine pure_ (i := 16) (N := some 40) (v := ?_) (a' := ?_) #[true, true, true, true, true, true, true, true, true, true, true, true, true, true, true, true, true, false, false, false, false, false, false, false, false, false, false, false, false, false, false, false, false, false, false] rfl rfl (any_of HT_.out z13_) (fun _ _ _ h => h) (Or.inl ⟨by rfl, ?_⟩) ?_ ?_; rotate_left
                        · intro w'; go_simp; with_reducible rfl
                        rotate_left
                        · exact zp_
                        refine pure_ (i := 17) (N := some 41) (v := ?_) (a' := ?_) #[true, true, true, true, true, true, true, true, true, true, true, true, true, true, true, true, true, true, false, false, false, false, false, false, false, false, false, false, false, false, false, false, false, false, false] rfl rfl (any_of HT_.out z13_) (fun _ _ _ h => h) (Or.inl ⟨by rfl, ?_⟩) ?_ ?_; rotate_left
                        · intro w'; go_simp; with_reducible rfl
                        rotate_left
                        · exact zp_
                        refine pure_ (i := 18) (N := some 42) (v := ?_) (a' := ?_) #[true, true, true, true, true, true, true, true, true, true, true, true, true, true, true, true, true, true, true, false, false, false, false, false, false, false, false, false, false, false, false, false, false, false, false] rfl rfl (any_of HT_.out z13_) (fun _ _ _ h => h) (Or.inl ⟨by rfl, ?_⟩) ?_ ?_; rotate_left
                        · intro w'; go_simp; with_reducible rfl
                        rotate_left
                        · exact zp_
                        refine pure_ (i := 19) (N := some 43) (v := ?_) (a' := ?_) #[true, true, true, true, true, true, true, true, true, true, true, true, true, true, true, true, true, true, true, true, false, false, false, false, false, false, false, false, false, false, false, false, false, false, false] rfl rfl (any_of HT_.out z13_) (fun _ _ _ h => h) (Or.inl ⟨by rfl, ?_⟩) ?_ ?_; rotate_left
                        · intro w'; go_simp; with_reducible rfl
                        rotate_left
                        · exact zp_
                        refine pure_ (i := 21) (N := some 45) (v := ?_) (a' := ?_) #[true, true, true, true, true, true, true, true, true, true, true, true, true, true, true, true, true, true, true, true, false, true, false, false, false, false, false, false, false, false, false, false, false, false, false] rfl rfl (any_of HT_.out z13_) (fun _ _ _ h => h) (Or.inl ⟨by rfl, ?_⟩) ?_ ?_; rotate_left
                        · intro w'; go_simp; with_reducible rfl
                        rotate_left
                        · exact zp_
                        refine pure_ (i := 22) (N := some 46) (v := ?_) (a' := ?_) #[true, true, true, true, true, true, true, true, true, true, true, true, true, true, true, true, true, true, true, true, false, true, true, false, false, false, false, false, false, false, false, false, false, false, false] rfl rfl (any_of HT_.out z13_) (fun _ _ _ h => h) (Or.inl ⟨by rfl, ?_⟩) ?_ ?_; rotate_left
                        · intro w'; go_simp; with_reducible rfl
                        rotate_left
                        · exact zp_
                        refine pure_ (i := 23) (N := some 47) (v := ?_) (a' := ?_) #[true, true, true, true, true, true, true, true, true, true, true, true, true, true, true, true, true, true, true, true, false, true, true, true, false, false, false, false, false, false, false, false, false, false, false] rfl rfl (any_of HT_.out z13_) (fun _ _ _ h => h) (Or.inl ⟨by rfl, ?_⟩) ?_ ?_; rotate_left
                        · intro w'; go_simp; with_reducible rfl
                        rotate_left
                        · exact zp_
                        refine take_ (i := 20) (N := some 44) (v := ?_) (a' := ?_) #[true, true, true, true, true, true, true, true, true, true, true, true, true, true, true, true, true, true, true, true, true, true, true, true, false, false, false, false, false, false, false, false, false, false, false] rfl rfl (take_ofW HT_.out HW_.out z13_) (fun _ _ _ h => h) (Or.inl ⟨by rfl, ?_⟩) hHeld ?_ ?_; rotate_left
                        · rintro w' ⟨s0, s1, s2, s3, s4, s5, s6, s7, s8, s9, s10, s11, s12, s13, s14⟩; go_simp; with_reducible rfl
                        rotate_left
                        · exact zp_
                        refine take_ (i := 24) (N := some 48) (v := ?_) (a' := ?_) #[true, true, true, true, true, true, true, true, true, true, true, true, true, true, true, true, true, true, true, true, true, true, true, true, true, false, false, false, false, false, false, false, false, false, false] rfl rfl (take_ofW HT_.out HW_.out z13_) (fun _ _ _ h => h) (Or.inl ⟨by rfl, ?_⟩) hHeld ?_ ?_; rotate_left
                        · rintro w' ⟨s0, s1, s2, s3, s4, s5, s6, s7, s8, s9, s10, s11, s12, s13, s14⟩; go_simp; with_reducible rfl
                        rotate_left
                        · exact zp_
                        refine pure_ (i := 25) (N := some 49) (v := ?_) (a' := ?_) #[true, true, true, true, true, true, true, true, true, true, true, true, true, true, true, true, true, true, true, true, true, true, true, true, true, true, false, false, false, false, false, false, false, false, false] rfl rfl (any_of HT_.out z13_) (fun _ _ _ h => h) (Or.inl ⟨by rfl, ?_⟩) ?_ ?_; rotate_left
                        · intro w'; go_simp; with_reducible rfl
                        rotate_left
                        · exact zp_
                        refine pure_ (i := 26) (N := some 50) (v := ?_) (a' := ?_) #[true, true, true, true, true, true, true, true, true, true, true, true, true, true, true, true, true, true, true, true, true, true, true, true, true, true, true, false, false, false, false, false, false, false, false] rfl rfl (any_of HT_.out z13_) (fun _ _ _ h => h) (Or.inl ⟨by rfl, ?_⟩) ?_ ?_; rotate_left
                        · intro w'; go_simp; with_reducible rfl
                        rotate_left
                        · exact zp_
                        refine pure_ (i := 27) (N := some 51) (v := ?_) (a' := ?_) #[true, true, true, true, true, true, true, true, true, true, true, true, true, true, true, true, true, true, true, true, true, true, true, true, true, true, true, true, false, false, false, false, false, false, false] rfl rfl (any_of HT_.out z13_) (fun _ _ _ h => h) (Or.inl ⟨by rfl, ?_⟩) ?_ ?_; rotate_left
                        · intro w'; go_simp; with_reducible rfl
                        rotate_left
                        · exact zp_
                        refine pure_ (i := 28) (N := some 52) (v := ?_) (a' := ?_) #[true, true, true, true, true, true, true, true, true, true, true, true, true, true, true, true, true, true, true, true, true, true, true, true, true, true, true, true, true, false, false, false, false, false, false] rfl rfl (any_of HT_.out z13_) (fun _ _ _ h => h) (Or.inl ⟨by rfl, ?_⟩) ?_ ?_; rotate_left
                        · intro w'; go_simp; with_reducible rfl
                        rotate_left
                        · exact zp_
                        refine pure_ (i := 29) (N := some 53) (v := ?_) (a' := ?_) #[true, true, true, true, true, true, true, true, true, true, true, true, true, true, true, true, true, true, true, true, true, true, true, true, true, true, true, true, true, true, false, false, false, false, false] rfl rfl (any_of HT_.out z13_) (fun _ _ _ h => h) (Or.inl ⟨by rfl, ?_⟩) ?_ ?_; rotate_left
                        · intro w'; go_simp; with_reducible rfl
                        rotate_left
                        · exact zp_
                        refine pure_ (i := 30) (N := some 54) (v := ?_) (a' := ?_) #[true, true, true, true, true, true, true, true, true, true, true, true, true, true, true, true, true, true, true, true, true, true, true, true, true, true, true, true, true, true, true, false, false, false, false] rfl rfl (any_of HT_.out z13_) (fun _ _ _ h => h) (Or.inl ⟨by rfl, ?_⟩) ?_ ?_; rotate_left
                        · intro w'; go_simp; with_reducible rfl
                        rotate_left
                        · exact zp_
                        refine take_ (i := 31) (N := some 55) (v := ?_) (a' := ?_) #[true, true, true, true, true, true, true, true, true, true, true, true, true, true, true, true, true, true, true, true, true, true, true, true, true, true, true, true, true, true, true, true, false, false, false] rfl rfl (take_ofW HT_.out HW_.out z13_) (fun _ _ _ h => h) (Or.inl ⟨by rfl, ?_⟩) hHeld ?_ ?_; rotate_left
                        · rintro w' ⟨s0, s1, s2, s3, s4, s5, s6, s7, s8, s9, s10, s11, s12, s13, s14⟩; go_simp; with_reducible rfl
                        rotate_left
                        · exact zp_
                        refine one_ (i := 32) (N := some 56) #[true, true, true, true, true, true, true, true, true, true, true, true, true, true, true, true, true, true, true, true, true, true, true, true, true, true, true, true, true, true, true, true, true, false, false] rfl rfl (one_of HT_.out z13_) (by decide) (fun K hK => ?_); refine goes_ Try.func72 z13_ rfl #[.int .i64 ((rd_T65 l1 x5_2).f2), .int .i64 1, .int .i64 100000000] (by rfl) rfl rfl z2_ ?_; (with_reducible refine (spec_l00In.calls ((rd_T65 l1 x5_2).f2) 1 100000000 false _ A15.out).mono ?_); rintro e w' ⟨rfl, ⟨nd, rfl⟩⟩; refine ⟨_, rfl, ?_⟩; refine hK.out _ _ ⟨((HB.out.cell (bl_ _ _ hw124_0)).trans hw124_0), ((HB.out.cell (bl_ _ _ hw124_1)).trans hw124_1), ((HB.out.cell (bl_ _ _ hw124_2)).trans hw124_2), ((HB.out.cell (bl_ _ _ hw126_0)).trans hw126_0), ((HB.out.cell (bl_ _ _ hw126_1)).trans hw126_1), ((HB.out.cell (bl_ _ _ hw126_2)).trans hw126_2), ((HB.out.cell (bl_ _ _ hw128_0)).trans hw128_0), ((HB.out.cell (bl_ _ _ hw128_1)).trans hw128_1), ((HB.out.cell (bl_ _ _ hw128_2)).trans hw128_2), ((HB.out.cell (bl_ _ _ hw129_0)).trans hw129_0), ((HB.out.cell (bl_ _ _ hw129_1)).trans hw129_1), ((HB.out.cell (bl_ _ _ hw129_2)).trans hw129_2), ((HB.out.cell (bl_ _ _ hw130_0)).trans hw130_0), ((HB.out.cell (bl_ _ _ hw130_1)).trans hw130_1), ((HB.out.cell (bl_ _ _ hw130_2)).trans hw130_2)⟩ (fun hHeld => ?_); clear hK K; refine norm_ (a' := ?_) ?_ ?_; rotate_left
                        · show Act.put _ (some 56) _ = _; exact zp_
                        refine pure_ (i := 33) (N := some 57) (v := ?_) (a' := ?_) #[true, true, true, true, true, true, true, true, true, true, true, true, true, true, true, true, true, true, true, true, true, true, true, true, true, true, true, true, true, true, true, true, true, true, false] rfl rfl (any_of HT_.out z13_) (fun _ _ _ h => h) (Or.inl ⟨by rfl, ?_⟩) ?_ ?_; rotate_left
                        · intro w'; go_simp; with_reducible rfl
                        rotate_left
                        · exact zp_
                        refine pure_ (i := 34) (N := some 58) (v := ?_) (a' := ?_) #[true, true, true, true, true, true, true, true, true, true, true, true, true, true, true, true, true, true, true, true, true, true, true, true, true, true, true, true, true, true, true, true, true, true, true] rfl rfl (any_of HT_.out z13_) (fun _ _ _ h => h) (Or.inl ⟨by rfl, ?_⟩) ?_ ?_; rotate_left
                        · intro w'; go_simp; with_reducible rfl
                        rotate_left
                        · exact zp_
                        refine done_ (done_of HT_.out z13_) ?_; (try go_wp2); go_ret; exact ⟨z10_, z0_⟩
                  · replace c12 := Bool.eq_false_iff.mpr c12; subst c12; (have H1 : (some false) = some r := z17_); clear H; have H := H1; clear H1; obtain rfl := Option.some.inj H; have p123 : 0 ≤ (x5_2 : Int) := of_decide_eq_true z3_; have q123 : x5_2 < (l1.length : Int) := of_decide_eq_true z3_; obtain ⟨ad123, e123, hx123_0, hx123_1, hx123_2⟩ := at_T65 HR1.out x5_2 p123 q123; cases e123; replace hx123_0 := (HB.out.cell (bl_ w _ hx123_0)).trans hx123_0; replace hx123_1 := (HB.out.cell (bl_ w _ hx123_1)).trans hx123_1; replace hx123_2 := (HB.out.cell (bl_ w _ hx123_2)).trans hx123_2; replace p123 := eq_true p123; replace q123 := eq_true q123; (try go_wp2); have n0_ := A_ (below_drew1 HB.out); clear HB; have HB := n0_; clear n0_; have p124 : 0 ≤ (x5_2 : Int) := of_decide_eq_true z3_; have q124 : x5_2 < (l1.length : Int) := of_decide_eq_true z3_; obtain ⟨ad124, e124, hx124_0, hx124_1, hx124_2⟩ := at_T65 HR1.out x5_2 p124 q124; have hw124_2 := hx124_2; have hw124_1 := hx124_1; have hw124_0 := hx124_0; obtain rfl : ad123 = ad124 := (by injection e124); replace hx124_0 := (HB.out.cell (bl_ w _ hx124_0)).trans hx124_0; replace hx124_1 := (HB.out.cell (bl_ w _ hx124_1)).trans hx124_1; replace hx124_2 := (HB.out.cell (bl_ w _ hx124_2)).trans hx124_2; replace p124 := eq_true p124; replace q124 := eq_true q124; have p126 : 0 ≤ (x5_2 : Int) := of_decide_eq_true z3_; have q126 : x5_2 < (l1.length : Int) := of_decide_eq_true z3_; obtain ⟨ad126, e126, hx126_0, hx126_1, hx126_2⟩ := at_T65 HR1.out x5_2 p126 q126; have hw126_2 := hx126_2; have hw126_1 := hx126_1; have hw126_0 := hx126_0; obtain rfl : ad123 = ad126 := (by injection e126); replace hx126_0 := (HB.out.cell (bl_ w _ hx126_0)).trans hx126_0; replace hx126_1 := (HB.out.cell (bl_ w _ hx126_1)).trans hx126_1; replace hx126_2 := (HB.out.cell (bl_ w _ hx126_2)).trans hx126_2; replace p126 := eq_true p126; replace q126 := eq_true q126; refine start_ (n := 35) (S := fun w' => w'.cell? (ad123.add ((x5_2).toNat * 3)) = some (.int .i64 ((rd_T65 l1 x5_2).f0)) ∧ w'.cell? ⟨(ad123.add ((x5_2).toNat * 3)).block, (ad123.add ((x5_2).toNat * 3)).off + 1, none⟩ = some (.int .i64 ((rd_T65 l1 x5_2).f1)) ∧ w'.cell? ⟨(ad123.add ((x5_2).toNat * 3)).block, (ad123.add ((x5_2).toNat * 3)).off + 2, none⟩ = some (.int .i64 ((rd_T65 l1 x5_2).f2)) ∧ w'.cell? (ad123.add ((x5_2).toNat * 3)) = some (.int .i64 ((rd_T65 l1 x5_2).f0)) ∧ w'.cell? ⟨(ad123.add ((x5_2).toNat * 3)).block, (ad123.add ((x5_2).toNat * 3)).off + 1, none⟩ = some (.int .i64 ((rd_T65 l1 x5_2).f1)) ∧ w'.cell? ⟨(ad123.add ((x5_2).toNat * 3)).block, (ad123.add ((x5_2).toNat * 3)).off + 2, none⟩ = some (.int .i64 ((rd_T65 l1 x5_2).f2))) (ds := []) #[false, false, false, false, false, false, false, false, false, false, false, false, false, false, false, false, false, false, false, false, false, false, false, false, false, false, false, false, false, false, false, false, false, false, false] z13_ rfl rfl ⟨((HB.out.cell (bl_ _ _ hw124_0)).trans hw124_0), ((HB.out.cell (bl_ _ _ hw124_1)).trans hw124_1), ((HB.out.cell (bl_ _ _ hw124_2)).trans hw124_2), ((HB.out.cell (bl_ _ _ hw126_0)).trans hw126_0), ((HB.out.cell (bl_ _ _ hw126_1)).trans hw126_1), ((HB.out.cell (bl_ _ _ hw126_2)).trans hw126_2)⟩ (fun hHeld => ?_); refine with_tabW spec_l02Ok.tab7 spec_l02Ok.bits7 (fun HT_ HW_ => ?_); generalize wr.drew = w19 at HB hx124_0 hx124_1 hx124_2 hx126_0 hx126_1 hx126_2 hHeld ⊢; refine pure_ (i := 0) (N := some 24) (v := ?_) (a' := ?_) #[true, false, false, false, false, false, false, false, false, false, false, false, false, false, false, false, false, false, false, false, false, false, false, false, false, false, false, false, false, false, false, false, false, false, false] rfl rfl (any_of HT_.out z13_) (fun _ _ _ h => h) (Or.inl ⟨by rfl, ?_⟩) ?_ ?_; rotate_left
                    · intro w'; go_simp; with_reducible rfl
                    rotate_left
                    · exact zp_
                    refine pure_ (i := 1) (N := some 25) (v := ?_) (a' := ?_) #[true, true, false, false, false, false, false, false, false, false, false, false, false, false, false, false, false, false, false, false, false, false, false, false, false, false, false, false, false, false, false, false, false, false, false] rfl rfl (any_of HT_.out z13_) (fun _ _ _ h => h) (Or.inl ⟨by rfl, ?_⟩) ?_ ?_; rotate_left
                    · intro w'; go_simp; with_reducible rfl
                    rotate_left
                    · exact zp_
                    refine pure_ (i := 2) (N := some 26) (v := ?_) (a' := ?_) #[true, true, true, false, false, false, false, false, false, false, false, false, false, false, false, false, false, false, false, false, false, false, false, false, false, false, false, false, false, false, false, false, false, false, false] rfl rfl (any_of HT_.out z13_) (fun _ _ _ h => h) (Or.inl ⟨by rfl, ?_⟩) ?_ ?_; rotate_left
                    · intro w'; go_simp; with_reducible rfl
                    rotate_left
                    · exact zp_
                    refine pure_ (i := 3) (N := some 27) (v := ?_) (a' := ?_) #[true, true, true, true, false, false, false, false, false, false, false, false, false, false, false, false, false, false, false, false, false, false, false, false, false, false, false, false, false, false, false, false, false, false, false] rfl rfl (any_of HT_.out z13_) (fun _ _ _ h => h) (Or.inl ⟨by rfl, ?_⟩) ?_ ?_; rotate_left
                    · intro w'; go_simp; with_reducible rfl
                    rotate_left
                    · exact zp_
                    refine take_ (i := 4) (N := some 28) (v := ?_) (a' := ?_) #[true, true, true, true, true, false, false, false, false, false, false, false, false, false, false, false, false, false, false, false, false, false, false, false, false, false, false, false, false, false, false, false, false, false, false] rfl rfl (take_ofW HT_.out HW_.out z13_) (fun _ _ _ h => h) (Or.inl ⟨by rfl, ?_⟩) hHeld ?_ ?_; rotate_left
                    · rintro w' ⟨s0, s1, s2, s3, s4, s5⟩; go_simp; with_reducible rfl
                    rotate_left
                    · exact zp_
                    refine one_ (i := 5) (N := some 29) #[true, true, true, true, true, true, false, false, false, false, false, false, false, false, false, false, false, false, false, false, false, false, false, false, false, false, false, false, false, false, false, false, false, false, false] rfl rfl (one_of HT_.out z13_) (by decide) (fun K hK => ?_); refine goes_ Try.func66 z13_ rfl #[.int .i64 a0, .int .i64 ((rd_T65 l1 x5_2).f0)] (by rfl) rfl rfl z2_ ?_; (with_reducible refine (spec_l02Person.calls a0 ((rd_T65 l1 x5_2).f0) true _ A9.out).mono ?_); rintro e w' ⟨rfl, ⟨nd, rfl⟩⟩; refine ⟨_, rfl, ?_⟩; refine hK.out _ _ ⟨((HB.out.cell (bl_ _ _ hw124_0)).trans hw124_0), ((HB.out.cell (bl_ _ _ hw124_1)).trans hw124_1), ((HB.out.cell (bl_ _ _ hw124_2)).trans hw124_2), ((HB.out.cell (bl_ _ _ hw126_0)).trans hw126_0), ((HB.out.cell (bl_ _ _ hw126_1)).trans hw126_1), ((HB.out.cell (bl_ _ _ hw126_2)).trans hw126_2)⟩ (fun hHeld => ?_); clear hK K; refine norm_ (a' := ?_) ?_ ?_; rotate_left
                    · show Act.put _ (some 29) _ = _; exact zp_
                    refine pure_ (i := 6) (N := some 30) (v := ?_) (a' := ?_) #[true, true, true, true, true, true, true, false, false, false, false, false, false, false, false, false, false, false, false, false, false, false, false, false, false, false, false, false, false, false, false, false, false, false, false] rfl rfl (any_of HT_.out z13_) (fun _ _ _ h => h) (Or.inl ⟨by rfl, ?_⟩) ?_ ?_; rotate_left
                    · intro w'; go_simp; with_reducible rfl
                    rotate_left
                    · exact zp_
                    refine pure_ (i := 7) (N := some 31) (v := ?_) (a' := ?_) #[true, true, true, true, true, true, true, true, false, false, false, false, false, false, false, false, false, false, false, false, false, false, false, false, false, false, false, false, false, false, false, false, false, false, false] rfl rfl (any_of HT_.out z13_) (fun _ _ _ h => h) (Or.inl ⟨by rfl, ?_⟩) ?_ ?_; rotate_left
                    · intro w'; go_simp; with_reducible rfl
                    rotate_left
                    · exact zp_
                    refine pure_ (i := 8) (N := some 32) (v := ?_) (a' := ?_) #[true, true, true, true, true, true, true, true, true, false, false, false, false, false, false, false, false, false, false, false, false, false, false, false, false, false, false, false, false, false, false, false, false, false, false] rfl rfl (any_of HT_.out z13_) (fun _ _ _ h => h) (Or.inl ⟨by rfl, ?_⟩) ?_ ?_; rotate_left
                    · intro w'; go_simp; with_reducible rfl
                    rotate_left
                    · exact zp_
                    refine pure_ (i := 9) (N := some 33) (v := ?_) (a' := ?_) #[true, true, true, true, true, true, true, true, true, true, false, false, false, false, false, false, false, false, false, false, false, false, false, false, false, false, false, false, false, false, false, false, false, false, false] rfl rfl (any_of HT_.out z13_) (fun _ _ _ h => h) (Or.inl ⟨by rfl, ?_⟩) ?_ ?_; rotate_left
                    · intro w'; go_simp; with_reducible rfl
                    rotate_left
                    · exact zp_
                    refine pure_ (i := 10) (N := some 34) (v := ?_) (a' := ?_) #[true, true, true, true, true, true, true, true, true, true, true, false, false, false, false, false, false, false, false, false, false, false, false, false, false, false, false, false, false, false, false, false, false, false, false] rfl rfl (any_of HT_.out z13_) (fun _ _ _ h => h) (Or.inl ⟨by rfl, ?_⟩) ?_ ?_; rotate_left
                    · intro w'; go_simp; with_reducible rfl
                    rotate_left
                    · exact zp_
                    refine pure_ (i := 11) (N := some 35) (v := ?_) (a' := ?_) #[true, true, true, true, true, true, true, true, true, true, true, true, false, false, false, false, false, false, false, false, false, false, false, false, false, false, false, false, false, false, false, false, false, false, false] rfl rfl (any_of HT_.out z13_) (fun _ _ _ h => h) (Or.inl ⟨by rfl, ?_⟩) ?_ ?_; rotate_left
                    · intro w'; go_simp; with_reducible rfl
                    rotate_left
                    · exact zp_
                    refine take_ (i := 12) (N := some 36) (v := ?_) (a' := ?_) #[true, true, true, true, true, true, true, true, true, true, true, true, true, false, false, false, false, false, false, false, false, false, false, false, false, false, false, false, false, false, false, false, false, false, false] rfl rfl (take_ofW HT_.out HW_.out z13_) (fun _ _ _ h => h) (Or.inl ⟨by rfl, ?_⟩) hHeld ?_ ?_; rotate_left
                    · rintro w' ⟨s0, s1, s2, s3, s4, s5⟩; go_simp; with_reducible rfl
                    rotate_left
                    · exact zp_
                    refine one_ (i := 13) (N := some 37) #[true, true, true, true, true, true, true, true, true, true, true, true, true, true, false, false, false, false, false, false, false, false, false, false, false, false, false, false, false, false, false, false, false, false, false] rfl rfl (one_of HT_.out z13_) (by decide) (fun K hK => ?_); refine goes_ Try.func66 z13_ rfl #[.int .i64 a0, .int .i64 ((rd_T65 l1 x5_2).f1)] (by rfl) rfl rfl z2_ ?_; (with_reducible refine (spec_l02Person.calls a0 ((rd_T65 l1 x5_2).f1) false _ A11.out).mono ?_); rintro e w' ⟨rfl, ⟨nd, rfl⟩⟩; refine ⟨_, rfl, ?_⟩; refine hK.out _ _ ⟨((HB.out.cell (bl_ _ _ hw124_0)).trans hw124_0), ((HB.out.cell (bl_ _ _ hw124_1)).trans hw124_1), ((HB.out.cell (bl_ _ _ hw124_2)).trans hw124_2), ((HB.out.cell (bl_ _ _ hw126_0)).trans hw126_0), ((HB.out.cell (bl_ _ _ hw126_1)).trans hw126_1), ((HB.out.cell (bl_ _ _ hw126_2)).trans hw126_2)⟩ (fun hHeld => ?_); clear hK K; refine norm_ (a' := ?_) ?_ ?_; rotate_left
                    · show Act.put _ (some 37) _ = _; exact zp_
                    refine pure_ (i := 14) (N := some 38) (v := ?_) (a' := ?_) #[true, true, true, true, true, true, true, true, true, true, true, true, true, true, true, false, false, false, false, false, false, false, false, false, false, false, false, false, false, false, false, false, false, false, false] rfl rfl (any_of HT_.out z13_) (fun _ _ _ h => h) (Or.inl ⟨by rfl, ?_⟩) ?_ ?_; rotate_left
                    · intro w'; go_simp; with_reducible rfl
                    rotate_left
                    · exact zp_
                    refine pure_ (i := 15) (N := some 39) (v := ?_) (a' := ?_) #[true, true, true, true, true, true, true, true, true, true, true, true, true, true, true, true, false, false, false, false, false, false, false, false, false, false, false, false, false, false, false, false, false, false, false] rfl rfl (any_of HT_.out z13_) (fun _ _ _ h => h) (Or.inl ⟨by rfl, ?_⟩) ?_ ?_; rotate_left
                    · intro w'; go_simp; with_reducible rfl
                    rotate_left
                    · exact zp_
                    refine pure_ (i := 16) (N := some 40) (v := ?_) (a' := ?_) #[true, true, true, true, true, true, true, true, true, true, true, true, true, true, true, true, true, false, false, false, false, false, false, false, false, false, false, false, false, false, false, false, false, false, false] rfl rfl (any_of HT_.out z13_) (fun _ _ _ h => h) (Or.inl ⟨by rfl, ?_⟩) ?_ ?_; rotate_left
                    · intro w'; go_simp; with_reducible rfl
                    rotate_left
                    · exact zp_
                    refine pure_ (i := 17) (N := some 41) (v := undef) (a' := ?_) #[true, true, true, true, true, true, true, true, true, true, true, true, true, true, true, true, true, true, false, false, false, false, false, false, false, false, false, false, false, false, false, false, false, false, false] rfl rfl (any_of HT_.out z13_) (fun _ _ _ h => h) (Or.inr ⟨by rfl, rfl⟩) ?_ ?_; rotate_left
                    · exact zp_
                    refine pure_ (i := 18) (N := some 42) (v := undef) (a' := ?_) #[true, true, true, true, true, true, true, true, true, true, true, true, true, true, true, true, true, true, true, false, false, false, false, false, false, false, false, false, false, false, false, false, false, false, false] rfl rfl (any_of HT_.out z13_) (fun _ _ _ h => h) (Or.inr ⟨by rfl, rfl⟩) ?_ ?_; rotate_left
                    · exact zp_
                    refine pure_ (i := 19) (N := some 43) (v := undef) (a' := ?_) #[true, true, true, true, true, true, true, true, true, true, true, true, true, true, true, true, true, true, true, true, false, false, false, false, false, false, false, false, false, false, false, false, false, false, false] rfl rfl (any_of HT_.out z13_) (fun _ _ _ h => h) (Or.inr ⟨by rfl, rfl⟩) ?_ ?_; rotate_left
                    · exact zp_
                    refine pure_ (i := 20) (N := some 44) (v := undef) (a' := ?_) #[true, true, true, true, true, true, true, true, true, true, true, true, true, true, true, true, true, true, true, true, true, false, false, false, false, false, false, false, false, false, false, false, false, false, false] rfl rfl (any_of HT_.out z13_) (fun _ _ _ h => h) (Or.inr ⟨by rfl, rfl⟩) ?_ ?_; rotate_left
                    · exact zp_
                    refine pure_ (i := 21) (N := some 45) (v := undef) (a' := ?_) #[true, true, true, true, true, true, true, true, true, true, true, true, true, true, true, true, true, true, true, true, true, true, false, false, false, false, false, false, false, false, false, false, false, false, false] rfl rfl (any_of HT_.out z13_) (fun _ _ _ h => h) (Or.inr ⟨by rfl, rfl⟩) ?_ ?_; rotate_left
                    · exact zp_
                    refine pure_ (i := 22) (N := some 46) (v := undef) (a' := ?_) #[true, true, true, true, true, true, true, true, true, true, true, true, true, true, true, true, true, true, true, true, true, true, true, false, false, false, false, false, false, false, false, false, false, false, false] rfl rfl (any_of HT_.out z13_) (fun _ _ _ h => h) (Or.inr ⟨by rfl, rfl⟩) ?_ ?_; rotate_left
                    · exact zp_
                    refine pure_ (i := 23) (N := some 47) (v := undef) (a' := ?_) #[true, true, true, true, true, true, true, true, true, true, true, true, true, true, true, true, true, true, true, true, true, true, true, true, false, false, false, false, false, false, false, false, false, false, false] rfl rfl (any_of HT_.out z13_) (fun _ _ _ h => h) (Or.inr ⟨by rfl, rfl⟩) ?_ ?_; rotate_left
                    · exact zp_
                    refine pure_ (i := 24) (N := some 48) (v := undef) (a' := ?_) #[true, true, true, true, true, true, true, true, true, true, true, true, true, true, true, true, true, true, true, true, true, true, true, true, true, false, false, false, false, false, false, false, false, false, false] rfl rfl (any_of HT_.out z13_) (fun _ _ _ h => h) (Or.inr ⟨by rfl, rfl⟩) ?_ ?_; rotate_left
                    · exact zp_
                    refine pure_ (i := 25) (N := some 49) (v := undef) (a' := ?_) #[true, true, true, true, true, true, true, true, true, true, true, true, true, true, true, true, true, true, true, true, true, true, true, true, true, true, false, false, false, false, false, false, false, false, false] rfl rfl (any_of HT_.out z13_) (fun _ _ _ h => h) (Or.inr ⟨by rfl, rfl⟩) ?_ ?_; rotate_left
                    · exact zp_
                    refine pure_ (i := 26) (N := some 50) (v := ?_) (a' := ?_) #[true, true, true, true, true, true, true, true, true, true, true, true, true, true, true, true, true, true, true, true, true, true, true, true, true, true, true, false, false, false, false, false, false, false, false] rfl rfl (any_of HT_.out z13_) (fun _ _ _ h => h) (Or.inl ⟨by rfl, ?_⟩) ?_ ?_; rotate_left
                    · intro w'; go_simp; with_reducible rfl
                    rotate_left
                    · exact zp_
                    refine pure_ (i := 27) (N := some 51) (v := ?_) (a' := ?_) #[true, true, true, true, true, true, true, true, true, true, true, true, true, true, true, true, true, true, true, true, true, true, true, true, true, true, true, true, false, false, false, false, false, false, false] rfl rfl (any_of HT_.out z13_) (fun _ _ _ h => h) (Or.inl ⟨by rfl, ?_⟩) ?_ ?_; rotate_left
                    · intro w'; go_simp; with_reducible rfl
                    rotate_left
                    · exact zp_
                    refine pure_ (i := 28) (N := some 52) (v := undef) (a' := ?_) #[true, true, true, true, true, true, true, true, true, true, true, true, true, true, true, true, true, true, true, true, true, true, true, true, true, true, true, true, true, false, false, false, false, false, false] rfl rfl (any_of HT_.out z13_) (fun _ _ _ h => h) (Or.inr ⟨by rfl, rfl⟩) ?_ ?_; rotate_left
                    · exact zp_
                    refine pure_ (i := 29) (N := some 53) (v := undef) (a' := ?_) #[true, true, true, true, true, true, true, true, true, true, true, true, true, true, true, true, true, true, true, true, true, true, true, true, true, true, true, true, true, true, false, false, false, false, false] rfl rfl (any_of HT_.out z13_) (fun _ _ _ h => h) (Or.inr ⟨by rfl, rfl⟩) ?_ ?_; rotate_left
                    · exact zp_
                    refine pure_ (i := 30) (N := some 54) (v := undef) (a' := ?_) #[true, true, true, true, true, true, true, true, true, true, true, true, true, true, true, true, true, true, true, true, true, true, true, true, true, true, true, true, true, true, true, false, false, false, false] rfl rfl (any_of HT_.out z13_) (fun _ _ _ h => h) (Or.inr ⟨by rfl, rfl⟩) ?_ ?_; rotate_left
                    · exact zp_
                    refine pure_ (i := 31) (N := some 55) (v := undef) (a' := ?_) #[true, true, true, true, true, true, true, true, true, true, true, true, true, true, true, true, true, true, true, true, true, true, true, true, true, true, true, true, true, true, true, true, false, false, false] rfl rfl (any_of HT_.out z13_) (fun _ _ _ h => h) (Or.inr ⟨by rfl, rfl⟩) ?_ ?_; rotate_left
                    · exact zp_
                    refine pure_ (i := 32) (N := some 56) (v := undef) (a' := ?_) #[true, true, true, true, true, true, true, true, true, true, true, true, true, true, true, true, true, true, true, true, true, true, true, true, true, true, true, true, true, true, true, true, true, false, false] rfl rfl (any_of HT_.out z13_) (fun _ _ _ h => h) (Or.inr ⟨by rfl, rfl⟩) ?_ ?_; rotate_left
                    · exact zp_
                    refine pure_ (i := 33) (N := some 57) (v := undef) (a' := ?_) #[true, true, true, true, true, true, true, true, true, true, true, true, true, true, true, true, true, true, true, true, true, true, true, true, true, true, true, true, true, true, true, true, true, true, false] rfl rfl (any_of HT_.out z13_) (fun _ _ _ h => h) (Or.inr ⟨by rfl, rfl⟩) ?_ ?_; rotate_left
                    · exact zp_
                    refine pure_ (i := 34) (N := some 58) (v := ?_) (a' := ?_) #[true, true, true, true, true, true, true, true, true, true, true, true, true, true, true, true, true, true, true, true, true, true, true, true, true, true, true, true, true, true, true, true, true, true, true] rfl rfl (any_of HT_.out z13_) (fun _ _ _ h => h) (Or.inl ⟨by rfl, ?_⟩) ?_ ?_; rotate_left
                    · intro w'; go_simp; with_reducible rfl
                    rotate_left
                    · exact zp_
                    refine done_ (done_of HT_.out z13_) ?_; (try go_wp2); go_ret; exact ⟨z10_, z0_⟩
                · replace c10 := Bool.eq_false_iff.mpr c10; subst c10; (have H1 : (some false) = some r := z17_); clear H; have H := H1; clear H1; obtain rfl := Option.some.inj H; have p123 : 0 ≤ (x5_2 : Int) := of_decide_eq_true z3_; have q123 : x5_2 < (l1.length : Int) := of_decide_eq_true z3_; obtain ⟨ad123, e123, hx123_0, hx123_1, hx123_2⟩ := at_T65 HR1.out x5_2 p123 q123; cases e123; replace hx123_0 := (HB.out.cell (bl_ w _ hx123_0)).trans hx123_0; replace hx123_1 := (HB.out.cell (bl_ w _ hx123_1)).trans hx123_1; replace hx123_2 := (HB.out.cell (bl_ w _ hx123_2)).trans hx123_2; replace p123 := eq_true p123; replace q123 := eq_true q123; (try go_wp2); have n0_ := A_ (below_drew1 HB.out); clear HB; have HB := n0_; clear n0_; have p124 : 0 ≤ (x5_2 : Int) := of_decide_eq_true z3_; have q124 : x5_2 < (l1.length : Int) := of_decide_eq_true z3_; obtain ⟨ad124, e124, hx124_0, hx124_1, hx124_2⟩ := at_T65 HR1.out x5_2 p124 q124; have hw124_2 := hx124_2; have hw124_1 := hx124_1; have hw124_0 := hx124_0; obtain rfl : ad123 = ad124 := (by injection e124); replace hx124_0 := (HB.out.cell (bl_ w _ hx124_0)).trans hx124_0; replace hx124_1 := (HB.out.cell (bl_ w _ hx124_1)).trans hx124_1; replace hx124_2 := (HB.out.cell (bl_ w _ hx124_2)).trans hx124_2; replace p124 := eq_true p124; replace q124 := eq_true q124; refine start_ (n := 35) (S := fun w' => w'.cell? (ad123.add ((x5_2).toNat * 3)) = some (.int .i64 ((rd_T65 l1 x5_2).f0)) ∧ w'.cell? ⟨(ad123.add ((x5_2).toNat * 3)).block, (ad123.add ((x5_2).toNat * 3)).off + 1, none⟩ = some (.int .i64 ((rd_T65 l1 x5_2).f1)) ∧ w'.cell? ⟨(ad123.add ((x5_2).toNat * 3)).block, (ad123.add ((x5_2).toNat * 3)).off + 2, none⟩ = some (.int .i64 ((rd_T65 l1 x5_2).f2))) (ds := []) #[false, false, false, false, false, false, false, false, false, false, false, false, false, false, false, false, false, false, false, false, false, false, false, false, false, false, false, false, false, false, false, false, false, false, false] z13_ rfl rfl ⟨((HB.out.cell (bl_ _ _ hw124_0)).trans hw124_0), ((HB.out.cell (bl_ _ _ hw124_1)).trans hw124_1), ((HB.out.cell (bl_ _ _ hw124_2)).trans hw124_2)⟩ (fun hHeld => ?_); refine with_tabW spec_l02Ok.tab7 spec_l02Ok.bits7 (fun HT_ HW_ => ?_); generalize wr.drew = w20 at HB hx124_0 hx124_1 hx124_2 hHeld ⊢; refine pure_ (i := 0) (N := some 24) (v := ?_) (a' := ?_) #[true, false, false, false, false, false, false, false, false, false, false, false, false, false, false, false, false, false, false, false, false, false, false, false, false, false, false, false, false, false, false, false, false, false, false] rfl rfl (any_of HT_.out z13_) (fun _ _ _ h => h) (Or.inl ⟨by rfl, ?_⟩) ?_ ?_; rotate_left
                  · intro w'; go_simp; with_reducible rfl
                  rotate_left
                  · exact zp_
                  refine pure_ (i := 1) (N := some 25) (v := ?_) (a' := ?_) #[true, true, false, false, false, false, false, false, false, false, false, false, false, false, false, false, false, false, false, false, false, false, false, false, false, false, false, false, false, false, false, false, false, false, false] rfl rfl (any_of HT_.out z13_) (fun _ _ _ h => h) (Or.inl ⟨by rfl, ?_⟩) ?_ ?_; rotate_left
                  · intro w'; go_simp; with_reducible rfl
                  rotate_left
                  · exact zp_
                  refine pure_ (i := 2) (N := some 26) (v := ?_) (a' := ?_) #[true, true, true, false, false, false, false, false, false, false, false, false, false, false, false, false, false, false, false, false, false, false, false, false, false, false, false, false, false, false, false, false, false, false, false] rfl rfl (any_of HT_.out z13_) (fun _ _ _ h => h) (Or.inl ⟨by rfl, ?_⟩) ?_ ?_; rotate_left
                  · intro w'; go_simp; with_reducible rfl
                  rotate_left
                  · exact zp_
                  refine pure_ (i := 3) (N := some 27) (v := ?_) (a' := ?_) #[true, true, true, true, false, false, false, false, false, false, false, false, false, false, false, false, false, false, false, false, false, false, false, false, false, false, false, false, false, false, false, false, false, false, false] rfl rfl (any_of HT_.out z13_) (fun _ _ _ h => h) (Or.inl ⟨by rfl, ?_⟩) ?_ ?_; rotate_left
                  · intro w'; go_simp; with_reducible rfl
                  rotate_left
                  · exact zp_
                  refine take_ (i := 4) (N := some 28) (v := ?_) (a' := ?_) #[true, true, true, true, true, false, false, false, false, false, false, false, false, false, false, false, false, false, false, false, false, false, false, false, false, false, false, false, false, false, false, false, false, false, false] rfl rfl (take_ofW HT_.out HW_.out z13_) (fun _ _ _ h => h) (Or.inl ⟨by rfl, ?_⟩) hHeld ?_ ?_; rotate_left
                  · rintro w' ⟨s0, s1, s2⟩; go_simp; with_reducible rfl
                  rotate_left
                  · exact zp_
                  refine one_ (i := 5) (N := some 29) #[true, true, true, true, true, true, false, false, false, false, false, false, false, false, false, false, false, false, false, false, false, false, false, false, false, false, false, false, false, false, false, false, false, false, false] rfl rfl (one_of HT_.out z13_) (by decide) (fun K hK => ?_); refine goes_ Try.func66 z13_ rfl #[.int .i64 a0, .int .i64 ((rd_T65 l1 x5_2).f0)] (by rfl) rfl rfl z2_ ?_; (with_reducible refine (spec_l02Person.calls a0 ((rd_T65 l1 x5_2).f0) false _ A9.out).mono ?_); rintro e w' ⟨rfl, ⟨nd, rfl⟩⟩; refine ⟨_, rfl, ?_⟩; refine hK.out _ _ ⟨((HB.out.cell (bl_ _ _ hw124_0)).trans hw124_0), ((HB.out.cell (bl_ _ _ hw124_1)).trans hw124_1), ((HB.out.cell (bl_ _ _ hw124_2)).trans hw124_2)⟩ (fun hHeld => ?_); clear hK K; refine norm_ (a' := ?_) ?_ ?_; rotate_left
                  · show Act.put _ (some 29) _ = _; exact zp_
                  refine pure_ (i := 6) (N := some 30) (v := ?_) (a' := ?_) #[true, true, true, true, true, true, true, false, false, false, false, false, false, false, false, false, false, false, false, false, false, false, false, false, false, false, false, false, false, false, false, false, false, false, false] rfl rfl (any_of HT_.out z13_) (fun _ _ _ h => h) (Or.inl ⟨by rfl, ?_⟩) ?_ ?_; rotate_left
                  · intro w'; go_simp; with_reducible rfl
                  rotate_left
                  · exact zp_
                  refine pure_ (i := 7) (N := some 31) (v := ?_) (a' := ?_) #[true, true, true, true, true, true, true, true, false, false, false, false, false, false, false, false, false, false, false, false, false, false, false, false, false, false, false, false, false, false, false, false, false, false, false] rfl rfl (any_of HT_.out z13_) (fun _ _ _ h => h) (Or.inl ⟨by rfl, ?_⟩) ?_ ?_; rotate_left
                  · intro w'; go_simp; with_reducible rfl
                  rotate_left
                  · exact zp_
                  refine pure_ (i := 8) (N := some 32) (v := undef) (a' := ?_) #[true, true, true, true, true, true, true, true, true, false, false, false, false, false, false, false, false, false, false, false, false, false, false, false, false, false, false, false, false, false, false, false, false, false, false] rfl rfl (any_of HT_.out z13_) (fun _ _ _ h => h) (Or.inr ⟨by rfl, rfl⟩) ?_ ?_; rotate_left
                  · exact zp_
                  refine pure_ (i := 9) (N := some 33) (v := undef) (a' := ?_) #[true, true, true, true, true, true, true, true, true, true, false, false, false, false, false, false, false, false, false, false, false, false, false, false, false, false, false, false, false, false, false, false, false, false, false] rfl rfl (any_of HT_.out z13_) (fun _ _ _ h => h) (Or.inr ⟨by rfl, rfl⟩) ?_ ?_; rotate_left
                  · exact zp_
                  refine pure_ (i := 10) (N := some 34) (v := undef) (a' := ?_) #[true, true, true, true, true, true, true, true, true, true, true, false, false, false, false, false, false, false, false, false, false, false, false, false, false, false, false, false, false, false, false, false, false, false, false] rfl rfl (any_of HT_.out z13_) (fun _ _ _ h => h) (Or.inr ⟨by rfl, rfl⟩) ?_ ?_; rotate_left
                  · exact zp_
                  refine pure_ (i := 11) (N := some 35) (v := undef) (a' := ?_) #[true, true, true, true, true, true, true, true, true, true, true, true, false, false, false, false, false, false, false, false, false, false, false, false, false, false, false, false, false, false, false, false, false, false, false] rfl rfl (any_of HT_.out z13_) (fun _ _ _ h => h) (Or.inr ⟨by rfl, rfl⟩) ?_ ?_; rotate_left
                  · exact zp_
                  refine pure_ (i := 12) (N := some 36) (v := undef) (a' := ?_) #[true, true, true, true, true, true, true, true, true, true, true, true, true, false, false, false, false, false, false, false, false, false, false, false, false, false, false, false, false, false, false, false, false, false, false] rfl rfl (any_of HT_.out z13_) (fun _ _ _ h => h) (Or.inr ⟨by rfl, rfl⟩) ?_ ?_; rotate_left
                  · exact zp_
                  refine pure_ (i := 13) (N := some 37) (v := undef) (a' := ?_) #[true, true, true, true, true, true, true, true, true, true, true, true, true, true, false, false, false, false, false, false, false, false, false, false, false, false, false, false, false, false, false, false, false, false, false] rfl rfl (any_of HT_.out z13_) (fun _ _ _ h => h) (Or.inr ⟨by rfl, rfl⟩) ?_ ?_; rotate_left
                  · exact zp_
                  refine pure_ (i := 14) (N := some 38) (v := undef) (a' := ?_) #[true, true, true, true, true, true, true, true, true, true, true, true, true, true, true, false, false, false, false, false, false, false, false, false, false, false, false, false, false, false, false, false, false, false, false] rfl rfl (any_of HT_.out z13_) (fun _ _ _ h => h) (Or.inr ⟨by rfl, rfl⟩) ?_ ?_; rotate_left
                  · exact zp_
                  refine pure_ (i := 15) (N := some 39) (v := ?_) (a' := ?_) #[true, true, true, true, true, true, true, true, true, true, true, true, true, true, true, true, false, false, false, false, false, false, false, false, false, false, false, false, false, false, false, false, false, false, false] rfl rfl (any_of HT_.out z13_) (fun _ _ _ h => h) (Or.inl ⟨by rfl, ?_⟩) ?_ ?_; rotate_left
                  · intro w'; go_simp; with_reducible rfl
                  rotate_left
                  · exact zp_
                  refine pure_ (i := 16) (N := some 40) (v := ?_) (a' := ?_) #[true, true, true, true, true, true, true, true, true, true, true, true, true, true, true, true, true, false, false, false, false, false, false, false, false, false, false, false, false, false, false, false, false, false, false] rfl rfl (any_of HT_.out z13_) (fun _ _ _ h => h) (Or.inl ⟨by rfl, ?_⟩) ?_ ?_; rotate_left
                  · intro w'; go_simp; with_reducible rfl
                  rotate_left
                  · exact zp_
                  refine pure_ (i := 17) (N := some 41) (v := undef) (a' := ?_) #[true, true, true, true, true, true, true, true, true, true, true, true, true, true, true, true, true, true, false, false, false, false, false, false, false, false, false, false, false, false, false, false, false, false, false] rfl rfl (any_of HT_.out z13_) (fun _ _ _ h => h) (Or.inr ⟨by rfl, rfl⟩) ?_ ?_; rotate_left
                  · exact zp_
                  refine pure_ (i := 18) (N := some 42) (v := undef) (a' := ?_) #[true, true, true, true, true, true, true, true, true, true, true, true, true, true, true, true, true, true, true, false, false, false, false, false, false, false, false, false, false, false, false, false, false, false, false] rfl rfl (any_of HT_.out z13_) (fun _ _ _ h => h) (Or.inr ⟨by rfl, rfl⟩) ?_ ?_; rotate_left
                  · exact zp_
                  refine pure_ (i := 19) (N := some 43) (v := undef) (a' := ?_) #[true, true, true, true, true, true, true, true, true, true, true, true, true, true, true, true, true, true, true, true, false, false, false, false, false, false, false, false, false, false, false, false, false, false, false] rfl rfl (any_of HT_.out z13_) (fun _ _ _ h => h) (Or.inr ⟨by rfl, rfl⟩) ?_ ?_; rotate_left
                  · exact zp_
                  refine pure_ (i := 20) (N := some 44) (v := undef) (a' := ?_) #[true, true, true, true, true, true, true, true, true, true, true, true, true, true, true, true, true, true, true, true, true, false, false, false, false, false, false, false, false, false, false, false, false, false, false] rfl rfl (any_of HT_.out z13_) (fun _ _ _ h => h) (Or.inr ⟨by rfl, rfl⟩) ?_ ?_; rotate_left
                  · exact zp_
                  refine pure_ (i := 21) (N := some 45) (v := undef) (a' := ?_) #[true, true, true, true, true, true, true, true, true, true, true, true, true, true, true, true, true, true, true, true, true, true, false, false, false, false, false, false, false, false, false, false, false, false, false] rfl rfl (any_of HT_.out z13_) (fun _ _ _ h => h) (Or.inr ⟨by rfl, rfl⟩) ?_ ?_; rotate_left
                  · exact zp_
                  refine pure_ (i := 22) (N := some 46) (v := undef) (a' := ?_) #[true, true, true, true, true, true, true, true, true, true, true, true, true, true, true, true, true, true, true, true, true, true, true, false, false, false, false, false, false, false, false, false, false, false, false] rfl rfl (any_of HT_.out z13_) (fun _ _ _ h => h) (Or.inr ⟨by rfl, rfl⟩) ?_ ?_; rotate_left
                  · exact zp_
                  refine pure_ (i := 23) (N := some 47) (v := undef) (a' := ?_) #[true, true, true, true, true, true, true, true, true, true, true, true, true, true, true, true, true, true, true, true, true, true, true, true, false, false, false, false, false, false, false, false, false, false, false] rfl rfl (any_of HT_.out z13_) (fun _ _ _ h => h) (Or.inr ⟨by rfl, rfl⟩) ?_ ?_; rotate_left
                  · exact zp_
                  refine pure_ (i := 24) (N := some 48) (v := undef) (a' := ?_) #[true, true, true, true, true, true, true, true, true, true, true, true, true, true, true, true, true, true, true, true, true, true, true, true, true, false, false, false, false, false, false, false, false, false, false] rfl rfl (any_of HT_.out z13_) (fun _ _ _ h => h) (Or.inr ⟨by rfl, rfl⟩) ?_ ?_; rotate_left
                  · exact zp_
                  refine pure_ (i := 25) (N := some 49) (v := undef) (a' := ?_) #[true, true, true, true, true, true, true, true, true, true, true, true, true, true, true, true, true, true, true, true, true, true, true, true, true, true, false, false, false, false, false, false, false, false, false] rfl rfl (any_of HT_.out z13_) (fun _ _ _ h => h) (Or.inr ⟨by rfl, rfl⟩) ?_ ?_; rotate_left
                  · exact zp_
                  refine pure_ (i := 26) (N := some 50) (v := ?_) (a' := ?_) #[true, true, true, true, true, true, true, true, true, true, true, true, true, true, true, true, true, true, true, true, true, true, true, true, true, true, true, false, false, false, false, false, false, false, false] rfl rfl (any_of HT_.out z13_) (fun _ _ _ h => h) (Or.inl ⟨by rfl, ?_⟩) ?_ ?_; rotate_left
                  · intro w'; go_simp; with_reducible rfl
                  rotate_left
                  · exact zp_
                  refine pure_ (i := 27) (N := some 51) (v := ?_) (a' := ?_) #[true, true, true, true, true, true, true, true, true, true, true, true, true, true, true, true, true, true, true, true, true, true, true, true, true, true, true, true, false, false, false, false, false, false, false] rfl rfl (any_of HT_.out z13_) (fun _ _ _ h => h) (Or.inl ⟨by rfl, ?_⟩) ?_ ?_; rotate_left
                  · intro w'; go_simp; with_reducible rfl
                  rotate_left
                  · exact zp_
                  refine pure_ (i := 28) (N := some 52) (v := undef) (a' := ?_) #[true, true, true, true, true, true, true, true, true, true, true, true, true, true, true, true, true, true, true, true, true, true, true, true, true, true, true, true, true, false, false, false, false, false, false] rfl rfl (any_of HT_.out z13_) (fun _ _ _ h => h) (Or.inr ⟨by rfl, rfl⟩) ?_ ?_; rotate_left
                  · exact zp_
                  refine pure_ (i := 29) (N := some 53) (v := undef) (a' := ?_) #[true, true, true, true, true, true, true, true, true, true, true, true, true, true, true, true, true, true, true, true, true, true, true, true, true, true, true, true, true, true, false, false, false, false, false] rfl rfl (any_of HT_.out z13_) (fun _ _ _ h => h) (Or.inr ⟨by rfl, rfl⟩) ?_ ?_; rotate_left
                  · exact zp_
                  refine pure_ (i := 30) (N := some 54) (v := undef) (a' := ?_) #[true, true, true, true, true, true, true, true, true, true, true, true, true, true, true, true, true, true, true, true, true, true, true, true, true, true, true, true, true, true, true, false, false, false, false] rfl rfl (any_of HT_.out z13_) (fun _ _ _ h => h) (Or.inr ⟨by rfl, rfl⟩) ?_ ?_; rotate_left
                  · exact zp_
                  refine pure_ (i := 31) (N := some 55) (v := undef) (a' := ?_) #[true, true, true, true, true, true, true, true, true, true, true, true, true, true, true, true, true, true, true, true, true, true, true, true, true, true, true, true, true, true, true, true, false, false, false] rfl rfl (any_of HT_.out z13_) (fun _ _ _ h => h) (Or.inr ⟨by rfl, rfl⟩) ?_ ?_; rotate_left
                  · exact zp_
                  refine pure_ (i := 32) (N := some 56) (v := undef) (a' := ?_) #[true, true, true, true, true, true, true, true, true, true, true, true, true, true, true, true, true, true, true, true, true, true, true, true, true, true, true, true, true, true, true, true, true, false, false] rfl rfl (any_of HT_.out z13_) (fun _ _ _ h => h) (Or.inr ⟨by rfl, rfl⟩) ?_ ?_; rotate_left
                  · exact zp_
                  refine pure_ (i := 33) (N := some 57) (v := undef) (a' := ?_) #[true, true, true, true, true, true, true, true, true, true, true, true, true, true, true, true, true, true, true, true, true, true, true, true, true, true, true, true, true, true, true, true, true, true, false] rfl rfl (any_of HT_.out z13_) (fun _ _ _ h => h) (Or.inr ⟨by rfl, rfl⟩) ?_ ?_; rotate_left
                  · exact zp_
                  refine pure_ (i := 34) (N := some 58) (v := ?_) (a' := ?_) #[true, true, true, true, true, true, true, true, true, true, true, true, true, true, true, true, true, true, true, true, true, true, true, true, true, true, true, true, true, true, true, true, true, true, true] rfl rfl (any_of HT_.out z13_) (fun _ _ _ h => h) (Or.inl ⟨by rfl, ?_⟩) ?_ ?_; rotate_left
                  · intro w'; go_simp; with_reducible rfl
                  rotate_left
                  · exact zp_
                  refine done_ (done_of HT_.out z13_) ?_; (try go_wp2); go_ret; exact ⟨z10_, z0_⟩
              · rw [if_neg c8] at H; exact absurd H (by simp)
            · rw [if_neg c7] at H; have c7b0 : decide (x5_2 < (l1.length : Int)) = false := decide_eq_false c7; clear c7; obtain rfl := Option.some.inj H; go_wp2; go_ret; exact ⟨z10_, z0_⟩

end Go.Proofs.Ytofcgkcpkngocaa.MCircles
