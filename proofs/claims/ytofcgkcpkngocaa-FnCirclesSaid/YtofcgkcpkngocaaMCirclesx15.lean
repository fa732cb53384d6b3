-- by a program of this session, for this claim
import Derived.Test.YtofcgkcpkngocaaMCirclesx0
import Derived.Test.YtofcgkcpkngocaaMCirclesx1
import Derived.Test.YtofcgkcpkngocaaMCirclesx2
import Derived.Test.YtofcgkcpkngocaaMCirclesx14
namespace Go.Proofs.Ytofcgkcpkngocaa.MCircles
open Go.RowKit Go.Proofs.YtofcgkcpkngocaaW.PrintWords Go.Proofs.YtofcgkcpkngocaaW.PrintLast Go.Proofs.YtofcgkcpkngocaaW.PrintMore
attribute [local go_sem] max2_int min2_int max_two min_two max_three min_three max_four min_four   -- for this text's walks alone
set_option linter.unusedVariables false
set_option linter.unusedSimpArgs false

attribute [local go_sem high] eqA65
/-! ### spec_l02Drawn: function 80 -/
def spec_l02Drawn.l0 : Nat → Int → List (S65) → Int → List Int → Int → Int → Option (Int × (List (S65)) × Int × Int)
  | 0, _, _, _, _, _, _ => none
  | k + 1, x4, x5, x6, x1000, x1001, x1002 => if x6 > 0 then ((spec_l00Src_pick.f x1000 x1001 x1002 x4).bind fun bt423 => ((spec_l00Src_pick.f x1000 bt423.2.1 bt423.2.2 (wrap64 (x4 - 1))).bind fun bt427 => (if x4 = 0 then (none) else ((spec_l00Src_pick.f x1000 bt427.2.1 bt427.2.2 60).bind fun bt430 => (if x5.length < 5864062014805 then (spec_l02Drawn.l0 k x4 (x5 ++ [(⟨bt423.1, Int.tmod (wrap64 ((wrap64 (bt423.1 + 1)) + bt427.1)) x4, wrap64 (1 + bt430.1)⟩ : S65)]) (wrap64 (x6 - 1)) x1000 bt430.2.1 bt430.2.2) else (none)))))) else (some (x4, x5, x1001, x1002))
def spec_l02Drawn.f (k : Nat) (s0_0 : List Int) (s0_1 : Int) (s0_2 : Int) : Option (Int × (List (S65)) × Int × Int) := (spec_l00Src_pick.f s0_0 s0_1 s0_2 5).bind fun bt414 => ((spec_l00Src_pick.f s0_0 bt414.2.1 bt414.2.2 9).bind fun bt420 => (spec_l02Drawn.l0 k (wrap64 (2 + bt414.1)) (([] : List (S65))) bt420.1 s0_0 bt420.2.1 bt420.2.2))
theorem spec_l02Drawn.mono_l : ∀ k, (∀ y0 y1 y2 y3 y4 y5, LeO (spec_l02Drawn.l0 k y0 y1 y2 y3 y4 y5) (spec_l02Drawn.l0 (k + 1) y0 y1 y2 y3 y4 y5))
  | 0 => fun _ _ _ _ _ _ r h => by simp [spec_l02Drawn.l0] at h
  | k + 1 => by
    have ih0 := spec_l02Drawn.mono_l k
    · intro y0 y1 y2 y3 y4 y5
      unfold spec_l02Drawn.l0
      repeat' first
      | (with_reducible exact ih0 _ _ _ _ _ _)
      | (with_reducible exact LeO.refl _)
      | (with_reducible exact LeO.none _)
      | (with_reducible refine LeO.ite ?_ ?_)
      | (with_reducible refine LeO.bind ?_ (fun _ => ?_))
      | exact ih0 _ _ _ _ _ _
      | exact LeO.none _
      | refine LeO.ite ?_ ?_
      | refine LeO.bind ?_ (fun _ => ?_)
theorem spec_l02Drawn.mono : ∀ a0 a1 a2 k, LeO (spec_l02Drawn.f k a0 a1 a2) (spec_l02Drawn.f (k + 1) a0 a1 a2) := by
  intro a0 a1 a2 k; have ih0 := spec_l02Drawn.mono_l k; unfold spec_l02Drawn.f
  repeat' first
      | (with_reducible exact ih0 _ _ _ _ _ _)
      | (with_reducible exact LeO.refl _)
      | (with_reducible exact LeO.none _)
      | (with_reducible refine LeO.ite ?_ ?_)
      | (with_reducible refine LeO.bind ?_ (fun _ => ?_))
      | exact ih0 _ _ _ _ _ _
      | exact LeO.none _
      | refine LeO.ite ?_ ?_
      | refine LeO.bind ?_ (fun _ => ?_)
def spec_l02Drawn.T7 : Bool × List (List Nat × List Nat) := (true, [([], []), ([0], [0]), ([1], [1]), ([], []), ([], []), ([4], [4]), ([3, 5], [3, 5]), ([2, 6], [2, 6]), ([], []), ([7, 8], [7, 8]), ([0, 1, 2, 3, 4, 5, 6, 7, 8, 9], []), ([10, 9, 6, 0, 1, 2, 3, 4, 5, 6, 7, 8, 9], [9, 10])])
def spec_l02Drawn.B7 : List Nat := [0, 1, 3, 0, 0, 16, 56, 127, 0, 511, 1023, 2047]
theorem spec_l02Drawn.tab7 : rtab .any (opsOf Try.f80 7) = spec_l02Drawn.T7 := by kernel_rfl
theorem spec_l02Drawn.bits7 : waitsOk spec_l02Drawn.T7.2 spec_l02Drawn.B7 = true := by kernel_rfl
set_option maxHeartbeats 8000000 in
set_option maxRecDepth 100000 in
theorem spec_l02Drawn.calls (k : Nat) (g : Nat) (s0_0 : List Int) (s0_1 : Int) (s0_2 : Int) (r1 : Int) (r2 : List (S65)) (r3 : Int) (r4 : Int) (w0 w : World) (hI : IsS100 w0 w g s0_0 s0_1 s0_2) (hB : Below w0.heap.size w0 w) (h : spec_l02Drawn.f k s0_0 s0_1 s0_2 = some (r1, r2, r3, r4)) :
    Calls Try.prog 80 #[.pointer (some ⟨g, 0, none⟩)] w fun e w' => ∃ v1_ : Value, e = .returned (.tuple #[.int .i64 r1, v1_]) ∧ Kd.R k65 65 w' w.heap.size (fun _ => True) v1_ r2 ∧ IsS100 w0 w' g s0_0 r3 r4 ∧ Below w0.heap.size w0 w' ∧ KeepBut w w' g none := by
  have hu65 := Try.underlying65; have HI0 := A_ hI; have HK := A_ (KeepBut.refl w g none); have HL := A_ hB.size; clear hI; have HW0 := A_ hB.size; have HB := A_ hB; clear hB; have H : ((spec_l00Src_pick.f s0_0 s0_1 s0_2 5).bind fun bt414 => ((spec_l00Src_pick.f s0_0 bt414.2.1 bt414.2.2 9).bind fun bt420 => (spec_l02Drawn.l0 k (wrap64 (2 + bt414.1)) (([] : List (S65))) bt420.1 s0_0 bt420.2.1 bt420.2.2))) = some (r1, r2, r3, r4) := h; clear h; replace H := Option.bind_eq_some_iff.mp H; obtain ⟨⟨t414, t415, t416⟩, A20, H⟩ := H; replace H : ((spec_l00Src_pick.f s0_0 t415 t416 9).bind fun bt420 => (spec_l02Drawn.l0 k (wrap64 (2 + t414)) (([] : List (S65))) bt420.1 s0_0 bt420.2.1 bt420.2.2)) = some (r1, r2, r3, r4) := H; have A2 := A_ A20; clear A20; obtain ⟨y417, hy417⟩ : ∃ y_ : List (S65), y_ = (([] : List (S65))) := ⟨_, rfl⟩; (replace H : ((spec_l00Src_pick.f s0_0 t415 t416 9).bind fun bt420 => (spec_l02Drawn.l0 k (wrap64 (2 + t414)) y417 bt420.1 s0_0 bt420.2.1 bt420.2.2)) = some (r1, r2, r3, r4) := by first | (rw [hy417]; with_reducible exact H) | (have H2_ := (Option.bind_some _ _).symm.trans H; rw [hy417]; with_reducible exact H2_) | (have H2_ := (Option.bind_some _ _).symm.trans H; with_reducible exact H2_) | with_reducible exact H | (rw [hy417]; exact H) | exact H); have Ny417 := A_ hy417; clear hy417; replace H := Option.bind_eq_some_iff.mp H; obtain ⟨⟨t420, t421, t422⟩, A30, H⟩ := H; replace H : (spec_l02Drawn.l0 k (wrap64 (2 + t414)) y417 t420 s0_0 t421 t422) = some (r1, r2, r3, r4) := H; have A3 := A_ A30; clear A30; have H' := A_ H; clear H; go_enter Try.func80, Try.ntmps80; go_wp2_with (first | ((with_reducible refine gate_callee (f := 87) rfl ?_); refine goesL_ (some 9) rfl rfl Try.func87 z13_ rfl #[.pointer (some ⟨g, 0, none⟩), .int .i64 5] rfl z2_ ?_; (with_reducible refine (spec_l00Src_pick.calls g s0_0 s0_1 s0_2 5 t414 t415 t416 w0 _ ?side1 ?side2 A2.out).mono ?_); (case side1 => repeat (first | (with_reducible first | exact HI0.out | apply IsS100.alloc | apply IsS100.drewN | apply IsS100.drew | apply IsS100.set_1 | apply IsS100.set_2) | exact HI0.out)); (case side2 => repeat (first | (with_reducible first | exact HB.out | apply below_alloc | apply pw_below_drewN | apply below_drew1 | refine below_set ?_ (IsS100.ge HI0.out)) | exact HB.out)); rintro e w4 ⟨rfl, hi, hb, hk⟩; refine ⟨_, rfl, ?_⟩; have n0_ := A_ (KeepBut.trans z6_ hk (.inl rfl)); have n1_ := A_ (hb); have n2_ := A_ (hi); clear HK; clear HB; clear HI0; have HK := n0_; have HB := n1_; have HI0 := n2_; clear n0_ n1_ n2_; (try clear hb); (try clear hb2); (try clear hk); (try clear hi)) | ((with_reducible refine gate_dst (N := 11) rfl ?_); refine Kd.R_lit k65 _ 65 ?hg (N := 11) ?hd (xs := ([] : List (S65))) (inner := []) (ok := fun _ => True) (okp := fun _ => True) ?hr ?hp (fun _ hk => hk) trivial (Below.refl _ _) (Nat.le_refl _) (by simp) ?_; (case hd => rfl); (case hg => rfl); (case hr => first | (go_simp; done) | (go_simp; rfl)); (case hp => exact (Reps.none _ _)); intro v418 w5 ho6 hb hg_ hnew_; clear hg_ hnew_; (first | rw [← Ny417.out] at ho6 | (simp only [Int.reduceToNat] at ho6; rw [← Ny417.out] at ho6)); have n0_ := A_ (Kd.R_lower ho6 (keep_size (w := w) (g := g) (row := none) z6_)); have n1_ := A_ (IsS100.below z19_ hb); have n2_ := A_ (KeepBut.trans z6_ (KeepBut.of_below hb g none) (.inl rfl)); have n3_ := A_ (below_step z24_ hb); clear HI0; clear HK; clear HB; have HO419 := n0_; have HI0 := n1_; have HK := n2_; have HB := n3_; clear n0_ n1_ n2_ n3_; clear hb ho6) | ((with_reducible refine gate_callee (f := 87) rfl ?_); refine goesL_ (some 13) rfl rfl Try.func87 z13_ rfl #[.pointer (some ⟨g, 0, none⟩), .int .i64 9] rfl z2_ ?_; (with_reducible refine (spec_l00Src_pick.calls g s0_0 t415 t416 9 t420 t421 t422 w0 _ ?side1 ?side2 A3.out).mono ?_); (case side1 => repeat (first | (with_reducible first | exact HI0.out | apply IsS100.alloc | apply IsS100.drewN | apply IsS100.drew | apply IsS100.set_1 | apply IsS100.set_2) | exact HI0.out)); (case side2 => repeat (first | (with_reducible first | exact HB.out | apply below_alloc | apply pw_below_drewN | apply below_drew1 | refine below_set ?_ (IsS100.ge HI0.out)) | exact HB.out)); rintro e w7 ⟨rfl, hi, hb, hk⟩; refine ⟨_, rfl, ?_⟩; have n0_ := A_ (Kd.R_mono (Kd.R_keep (IsS100.apart (show IsS100 w0 _ g s0_0 t415 t416 from z19_) (by (with_reducible repeat (first | apply Kd.R_alloc | apply Kd.R_drewN | apply Kd.R_drew)); exact HO419.out) (by decide)) hk (fun _ h => h.2)) (fun _ h => h.1)); have n1_ := A_ (KeepBut.trans z6_ hk (.inl rfl)); have n2_ := A_ (hb); have n3_ := A_ (hi); clear HO419; clear HK; clear HB; clear HI0; have HO419 := n0_; have HK := n1_; have HB := n2_; have HI0 := n3_; clear n0_ n1_ n2_ n3_; (try clear hb); (try clear hb2); (try clear hk); (try clear hi))); go_loopg [5, 6] k (fun kq v5 v6 w' => ∃ (x5_1 : List (S65)) (x6_1 : Int) (x1001_1 : Int) (x1002_1 : Int), v6 = .int .i64 x6_1 ∧ Aside0 (spec_l02Drawn.l0 kq (wrap64 (2 + t414)) x5_1 x6_1 s0_0 x1001_1 x1002_1 = some (r1, r2, r3, r4)) ∧ Aside0 (kq ≤ k) ∧ Aside0 (Kd.R k65 65 w' w.heap.size (fun _ => True) v5 x5_1) ∧ Aside0 (IsS100 w0 w' g s0_0 x1001_1 x1002_1) ∧ Aside0 (KeepBut w w' g none) ∧ Aside0 (Below w0.heap.size w0 w'))
  case atStart => exact ⟨(y417), (t420), (t421), (t422), z11_, H', ⟨Nat.le_refl _⟩, ⟨by (with_reducible repeat (first | apply Kd.R_alloc | apply Kd.R_drewN | apply Kd.R_drew)); exact HO419.out⟩, ⟨z19_⟩, ⟨z6_⟩, ⟨z24_⟩⟩
  case round =>
    clear H'; (try clear p2); (try clear p6); obtain ⟨x5_1, x6_1, x1001_1, x1002_1, rfl, HA, HK1, HO_5, HI0, HK, HB⟩ := hrel
    cases gk with
    | zero => exact absurd HA.out (by simp [spec_l02Drawn.l0])
    | succ k1 =>
      have H := HA.out; clear HA; simp only [spec_l02Drawn.l0] at H; by_cases c8 : x6_1 > 0
      · rw [if_pos c8] at H; have c8b0 : decide (0 < x6_1) = true := decide_eq_true c8; clear c8; replace H := Option.bind_eq_some_iff.mp H; obtain ⟨⟨t423, t424, t425⟩, A90, H⟩ := H; replace H : ((spec_l00Src_pick.f s0_0 t424 t425 (wrap64 ((wrap64 (2 + t414)) - 1))).bind fun bt427 => (if (wrap64 (2 + t414)) = 0 then (none) else ((spec_l00Src_pick.f s0_0 bt427.2.1 bt427.2.2 60).bind fun bt430 => (if x5_1.length < 5864062014805 then (spec_l02Drawn.l0 k1 (wrap64 (2 + t414)) (x5_1 ++ [(⟨t423, Int.tmod (wrap64 ((wrap64 (t423 + 1)) + bt427.1)) (wrap64 (2 + t414)), wrap64 (1 + bt430.1)⟩ : S65)]) (wrap64 (x6_1 - 1)) s0_0 bt430.2.1 bt430.2.2) else (none))))) = some (r1, r2, r3, r4) := H; have A9 := A_ A90; clear A90; replace H := Option.bind_eq_some_iff.mp H; obtain ⟨⟨t427, t428, t429⟩, A100, H⟩ := H; replace H : (if (wrap64 (2 + t414)) = 0 then (none) else ((spec_l00Src_pick.f s0_0 t428 t429 60).bind fun bt430 => (if x5_1.length < 5864062014805 then (spec_l02Drawn.l0 k1 (wrap64 (2 + t414)) (x5_1 ++ [(⟨t423, Int.tmod (wrap64 ((wrap64 (t423 + 1)) + t427)) (wrap64 (2 + t414)), wrap64 (1 + bt430.1)⟩ : S65)]) (wrap64 (x6_1 - 1)) s0_0 bt430.2.1 bt430.2.2) else (none)))) = some (r1, r2, r3, r4) := H; have A10 := A_ A100; clear A100; by_cases c11 : (wrap64 (2 + t414)) = 0
        · rw [if_pos c11] at H; exact absurd H (by simp)
        · rw [if_neg c11] at H; have c11b0 : ((wrap64 (2 + t414)) == 0) = false := beq_eq_false_iff_ne.mpr c11; have c11b1 : ((wrap64 (2 + t414)) != 0) = true := bne_iff_ne.mpr c11; replace H := Option.bind_eq_some_iff.mp H; obtain ⟨⟨t430, t431, t432⟩, A120, H⟩ := H; replace H : (if x5_1.length < 5864062014805 then (spec_l02Drawn.l0 k1 (wrap64 (2 + t414)) (x5_1 ++ [(⟨t423, Int.tmod (wrap64 ((wrap64 (t423 + 1)) + t427)) (wrap64 (2 + t414)), wrap64 (1 + t430)⟩ : S65)]) (wrap64 (x6_1 - 1)) s0_0 t431 t432) else (none)) = some (r1, r2, r3, r4) := H; have A12 := A_ A120; clear A120; by_cases c13 : x5_1.length < 5864062014805
          · rw [if_pos c13] at H; have LMc13 := A_ c13; clear c13; obtain ⟨y433, hy433⟩ : ∃ y_ : List (S65), y_ = (x5_1 ++ [(⟨t423, Int.tmod (wrap64 ((wrap64 (t423 + 1)) + t427)) (wrap64 (2 + t414)), wrap64 (1 + t430)⟩ : S65)]) := ⟨_, rfl⟩; (replace H : (spec_l02Drawn.l0 k1 (wrap64 (2 + t414)) y433 (wrap64 (x6_1 - 1)) s0_0 t431 t432) = some (r1, r2, r3, r4) := by first | (rw [hy433]; with_reducible exact H) | (have H2_ := (Option.bind_some _ _).symm.trans H; rw [hy433]; with_reducible exact H2_) | (have H2_ := (Option.bind_some _ _).symm.trans H; with_reducible exact H2_) | with_reducible exact H | (rw [hy433]; exact H) | exact H); have Ny433 := A_ hy433; clear hy433; have H' := A_ H; clear H; (try go_wp2_with (first | ((with_reducible refine gate_callee (f := 87) rfl ?_); refine goesL_ (some 20) rfl rfl Try.func87 z13_ rfl #[.pointer (some ⟨g, 0, none⟩), .int .i64 (wrap64 (2 + t414))] rfl z2_ ?_; (with_reducible refine (spec_l00Src_pick.calls g s0_0 x1001_1 x1002_1 (wrap64 (2 + t414)) t423 t424 t425 w0 _ ?side1 ?side2 A9.out).mono ?_); (case side1 => repeat (first | (with_reducible first | exact HI0.out | apply IsS100.alloc | apply IsS100.drewN | apply IsS100.drew | apply IsS100.set_1 | apply IsS100.set_2) | exact HI0.out)); (case side2 => repeat (first | (with_reducible first | exact HB.out | apply below_alloc | apply pw_below_drewN | apply below_drew1 | refine below_set ?_ (IsS100.ge HI0.out)) | exact HB.out)); rintro e w14 ⟨rfl, hi, hb, hk⟩; refine ⟨_, rfl, ?_⟩; have n0_ := A_ (Kd.R_mono (Kd.R_keep (IsS100.apart (show IsS100 w0 _ g s0_0 x1001_1 x1002_1 from z19_) z57_ (by decide)) hk (fun _ h => h.2)) (fun _ h => h.1)); have n1_ := A_ (KeepBut.trans z6_ hk (.inl rfl)); have n2_ := A_ (hb); have n3_ := A_ (hi); clear HO_5; clear HK; clear HB; clear HI0; have HO_5 := n0_; have HK := n1_; have HB := n2_; have HI0 := n3_; clear n0_ n1_ n2_ n3_; (try clear hb); (try clear hb2); (try clear hk); (try clear hi)) | ((with_reducible refine gate_dst (N := 7) rfl ?_); refine box_event ?hg (N := 7) ?hd (cs := #[.int .i64 0, .int .i64 0, .int .i64 0]) (t := 65) ?hr ?_; (case hd => rfl); (case hg => rfl); (case hr => first | (go_simp; done) | (go_simp; rfl)); intro gb426 hg w15 hbox hb; have n0_ := A_ (Kd.R_below (Kd.R_elderB z57_ gb426 (Nat.le_of_eq hg.symm)) hb); have n1_ := A_ (IsS100.below z19_ hb); have n2_ := A_ (KeepBut.trans z6_ (KeepBut.of_below hb g none) (.inl rfl)); have n3_ := A_ (below_step z24_ hb); have n4_ := A_ (hbox); have n5_ := A_ ((by rw [hg]; exact (keep_size (w := w) (g := g) (row := none) z6_) : w.heap.size ≤ gb426)); have n6_ := A_ ((Nat.le_trans HW0.out (by rw [hg]; exact (keep_size (w := w) (g := g) (row := none) z6_) : w.heap.size ≤ gb426) : w0.heap.size ≤ gb426)); have n7_ := A_ ((by rw [hg]; exact Nat.ne_of_lt (IsS100.lt (show IsS100 w0 _ g s0_0 t424 t425 from z19_)) : g ≠ gb426)); have n8_ := A_ ((by rw [hg]; exact Nat.ne_of_gt (IsS100.lt (show IsS100 w0 _ g s0_0 t424 t425 from z19_)) : gb426 ≠ g)); clear HO_5; clear HI0; clear HK; clear HB; have HO_5 := n0_; have HI0 := n1_; have HK := n2_; have HB := n3_; have BK426 := n4_; have GW426 := n5_; have GE426 := n6_; have NB0_426 := n7_; have NB426_0 := n8_; clear n0_ n1_ n2_ n3_ n4_ n5_ n6_ n7_ n8_; clear hb hbox hg; have hnb16 := NB426_0.out; have hnc16 := NB0_426.out; have hcz17_0 : w15.cell? ⟨gb426, 0, none⟩ = some (.int .i64 0) := (blk_cell BK426.out 0).trans rfl; have hcz17_1 : w15.cell? ⟨gb426, 1, none⟩ = some (.int .i64 0) := (blk_cell BK426.out 1).trans rfl; have hcz17_2 : w15.cell? ⟨gb426, 2, none⟩ = some (.int .i64 0) := (blk_cell BK426.out 2).trans rfl; have hfz17_0 := blk_frozen BK426.out 0; have hfz17_1 := blk_frozen BK426.out 1; have hfz17_2 := blk_frozen BK426.out 2))); have n0_ : Aside0 (Kd.R k65 65 (((w15.setCell ⟨gb426, 0, none⟩ (.int .i64 t423)).setCell ⟨gb426, 1, none⟩ (.int .i64 0)).setCell ⟨gb426, 2, none⟩ (.int .i64 0)) w.heap.size (fun k_ => k_ ≠ gb426) u5 x5_1) := ⟨by (with_reducible repeat (first | apply Kd.R_alloc | apply Kd.R_drewN | apply Kd.R_drew)); exact Kd.R_mono (Kd.R_far (p := ⟨gb426, 2, none⟩) (Kd.R_far (p := ⟨gb426, 1, none⟩) (Kd.R_far (p := ⟨gb426, 0, none⟩) (Kd.R_mono HO_5.out (fun k_ hk => (⟨hk, hk.2⟩ : _ ∧ k_ ≠ gb426))) (fun _ hk => hk.2) (.int .i64 t423)) (fun _ hk => hk.2) (.int .i64 0)) (fun _ hk => hk.2) (.int .i64 0)) (fun _ hk => hk.1.2)⟩; have n1_ : Aside0 ((((w15.setCell ⟨gb426, 0, none⟩ (.int .i64 t423)).setCell ⟨gb426, 1, none⟩ (.int .i64 0)).setCell ⟨gb426, 2, none⟩ (.int .i64 0)).heap[gb426]? = some (.cells #[.int .i64 t423, .int .i64 0, .int .i64 0] 65 (0, 0))) := ⟨by (with_reducible repeat (first | refine blk_drewN ?_ _ | refine blk_drew ?_ | refine blk_alloc ?_ _)); refine blk_put (cs := #[.int .i64 t423, .int .i64 0, .int .i64 0]) ?_ 2 _ rfl; (with_reducible repeat (first | refine blk_drewN ?_ _ | refine blk_drew ?_ | refine blk_alloc ?_ _)); refine blk_put (cs := #[.int .i64 t423, .int .i64 0, .int .i64 0]) ?_ 1 _ rfl; (with_reducible repeat (first | refine blk_drewN ?_ _ | refine blk_drew ?_ | refine blk_alloc ?_ _)); refine blk_put (cs := #[.int .i64 0, .int .i64 0, .int .i64 0]) ?_ 0 _ rfl; (with_reducible repeat (first | refine blk_drewN ?_ _ | refine blk_drew ?_ | refine blk_alloc ?_ _)); exact BK426.out⟩; have n2_ : Aside0 (IsS100 w0 (((w15.setCell ⟨gb426, 0, none⟩ (.int .i64 t423)).setCell ⟨gb426, 1, none⟩ (.int .i64 0)).setCell ⟨gb426, 2, none⟩ (.int .i64 0)) g s0_0 t424 t425) := ⟨z44_⟩; have n3_ : Aside0 (KeepBut w (((w15.setCell ⟨gb426, 0, none⟩ (.int .i64 t423)).setCell ⟨gb426, 1, none⟩ (.int .i64 0)).setCell ⟨gb426, 2, none⟩ (.int .i64 0)) g none) := ⟨z43_⟩; have n4_ : Aside0 (Below w0.heap.size w0 (((w15.setCell ⟨gb426, 0, none⟩ (.int .i64 t423)).setCell ⟨gb426, 1, none⟩ (.int .i64 0)).setCell ⟨gb426, 2, none⟩ (.int .i64 0))) := ⟨z77_⟩; (try clear HO_5); (try clear BK426); (try clear HI0); (try clear HK); (try clear HB); generalize (((w15.setCell ⟨gb426, 0, none⟩ (.int .i64 t423)).setCell ⟨gb426, 1, none⟩ (.int .i64 0)).setCell ⟨gb426, 2, none⟩ (.int .i64 0)) = w18 at n0_ n1_ n2_ n3_ n4_ ⊢; have HO_5 := n0_; have BK426 := n1_; have HI0 := n2_; have HK := n3_; have HB := n4_; clear n0_ n1_ n2_ n3_ n4_; have n0_ := A_ (Kd.R_drew HO_5.out); have n1_ := A_ (blk_drew BK426.out); have n2_ := A_ (IsS100.drew HI0.out); have n3_ := A_ (keep_drew HK.out); have n4_ := A_ (below_drew1 HB.out); clear HO_5; clear BK426; clear HI0; clear HK; clear HB; have HO_5 := n0_; have BK426 := n1_; have HI0 := n2_; have HK := n3_; have HB := n4_; clear n0_ n1_ n2_ n3_ n4_; refine start_ (n := 12) (S := fun w' => w'.cell? ⟨gb426, 0, none⟩ = some (.int .i64 t423) ∧ w'.cell? ⟨gb426, 1, none⟩ = some (.int .i64 0) ∧ w'.cell? ⟨gb426, 2, none⟩ = some (.int .i64 0)) (ds := [11]) #[false, false, false, false, false, false, false, false, false, false, false, false] z13_ rfl rfl ⟨(blk_cell BK426.out 0).trans rfl, (blk_cell BK426.out 1).trans rfl, (blk_cell BK426.out 2).trans rfl⟩ (fun hHeld => ?_); refine with_tabW spec_l02Drawn.tab7 spec_l02Drawn.bits7 (fun HT_ HW_ => ?_); generalize w18.drew = w19 at HO_5 BK426 HI0 HK HB hHeld ⊢; refine pure_ (i := 0) (N := some 22) (v := ?_) (a' := ?_) #[true, false, false, false, false, false, false, false, false, false, false, false] rfl rfl (any_of HT_.out z13_) (fun _ _ _ h => h) (Or.inl ⟨by rfl, ?_⟩) ?_ ?_; rotate_left
            · intro w'; go_simp; with_reducible rfl
            rotate_left
            · exact zp_
            refine pure_ (i := 3) (N := some 25) (v := ?_) (a' := ?_) #[true, false, false, true, false, false, false, false, false, false, false, false] rfl rfl (any_of HT_.out z13_) (fun _ _ _ h => h) (Or.inl ⟨by rfl, ?_⟩) ?_ ?_; rotate_left
            · intro w'; go_simp; with_reducible rfl
            rotate_left
            · exact zp_
            refine pure_ (i := 4) (N := some 26) (v := ?_) (a' := ?_) #[true, false, false, true, true, false, false, false, false, false, false, false] rfl rfl (any_of HT_.out z13_) (fun _ _ _ h => h) (Or.inl ⟨by rfl, ?_⟩) ?_ ?_; rotate_left
            · intro w'; go_simp; with_reducible rfl
            rotate_left
            · exact zp_
            refine pure_ (i := 5) (N := some 27) (v := ?_) (a' := ?_) #[true, false, false, true, true, true, false, false, false, false, false, false] rfl rfl (any_of HT_.out z13_) (fun _ _ _ h => h) (Or.inl ⟨by rfl, ?_⟩) ?_ ?_; rotate_left
            · intro w'; go_simp; with_reducible rfl
            rotate_left
            · exact zp_
            refine pure_ (i := 8) (N := some 30) (v := ?_) (a' := ?_) #[true, false, false, true, true, true, false, false, true, false, false, false] rfl rfl (any_of HT_.out z13_) (fun _ _ _ h => h) (Or.inl ⟨by rfl, ?_⟩) ?_ ?_; rotate_left
            · intro w'; go_simp; with_reducible rfl
            rotate_left
            · exact zp_
            refine take_ (i := 1) (N := some 23) (v := ?_) (a' := ?_) #[true, true, false, true, true, true, false, false, true, false, false, false] rfl rfl (take_ofW HT_.out HW_.out z13_) (fun _ _ _ h => h) (Or.inl ⟨by rfl, ?_⟩) hHeld ?_ ?_; rotate_left
            · rintro w' ⟨s0, s1, s2⟩; go_simp; with_reducible rfl
            rotate_left
            · exact zp_
            refine pure_ (i := 2) (N := some 24) (v := ?_) (a' := ?_) #[true, true, true, true, true, true, false, false, true, false, false, false] rfl rfl (any_of HT_.out z13_) (fun _ _ _ h => h) (Or.inl ⟨by rfl, ?_⟩) ?_ ?_; rotate_left
            · intro w'; go_simp; with_reducible rfl
            rotate_left
            · exact zp_
            refine one_ (i := 6) (N := some 28) #[true, true, true, true, true, true, true, false, true, false, false, false] rfl rfl (one_of HT_.out z13_) (by decide) (fun K hK => ?_); refine goes_ Try.func87 z13_ rfl #[.pointer (some ⟨g, 0, none⟩), .int .i64 (wrap64 ((wrap64 (2 + t414)) - 1))] (by rfl) rfl rfl z2_ ?_; (with_reducible refine (spec_l00Src_pick.calls g s0_0 t424 t425 (wrap64 ((wrap64 (2 + t414)) - 1)) t427 t428 t429 w0 _ ?side1 ?side2 A10.out).mono ?_); (case side1 => repeat (first | (with_reducible first | exact HI0.out | apply IsS100.alloc | apply IsS100.drewN | apply IsS100.drew | apply IsS100.set_1 | apply IsS100.set_2 | refine IsS100.far ?_ NB0_426.out _) | exact HI0.out)); (case side2 => repeat (first | (with_reducible first | exact HB.out | apply below_alloc | apply pw_below_drewN | apply below_drew1 | refine below_set ?_ (IsS100.ge HI0.out) | refine below_set ?_ GE426.out) | exact HB.out)); rintro e w20 ⟨rfl, hi, hb, hk⟩; refine ⟨_, rfl, ?_⟩; have n0_ := A_ (Kd.R_mono (Kd.R_keep (IsS100.apart (show IsS100 w0 _ g s0_0 t424 t425 from z44_) z57_ (by decide)) hk (fun _ h => h.2)) (fun _ h => h.1)); have n1_ := A_ (KeepBut.blk hk (g' := gb426) (o := .cells #[.int .i64 t423, .int .i64 0, .int .i64 0] 65 (0, 0)) (by (with_reducible repeat (first | refine blk_drewN ?_ _ | refine blk_drew ?_ | refine blk_alloc ?_ _)); exact BK426.out) NB426_0.out (by simp)); have n2_ := A_ (KeepBut.trans z43_ hk (.inl rfl)); have n3_ := A_ (hb); have n4_ := A_ (hi); clear HO_5; clear BK426; clear HK; clear HB; clear HI0; have HO_5 := n0_; have BK426 := n1_; have HK := n2_; have HB := n3_; have HI0 := n4_; clear n0_ n1_ n2_ n3_ n4_; (try clear hb); (try clear hb2); (try clear hk); (try clear hi); refine hK.out _ _ ⟨(blk_cell BK426.out 0).trans rfl, (blk_cell BK426.out 1).trans rfl, (blk_cell BK426.out 2).trans rfl⟩ (fun hHeld => ?_); clear hK K; refine norm_ (a' := ?_) ?_ ?_; rotate_left
            · show Act.put _ (some 28) _ = _; exact zp_
            refine pure_ (i := 7) (N := some 29) (v := ?_) (a' := ?_) #[true, true, true, true, true, true, true, true, true, false, false, false] rfl rfl (any_of HT_.out z13_) (fun _ _ _ h => h) (Or.inl ⟨by rfl, ?_⟩) ?_ ?_; rotate_left
            · intro w'; go_simp; with_reducible rfl
            rotate_left
            · exact zp_
            refine pure_ (i := 9) (N := some 31) (v := ?_) (a' := ?_) #[true, true, true, true, true, true, true, true, true, true, false, false] rfl rfl (any_of HT_.out z13_) (fun _ _ _ h => h) (Or.inl ⟨by rfl, ?_⟩) ?_ ?_; rotate_left
            · intro w'; go_simp; with_reducible rfl
            rotate_left
            · exact zp_
            refine pure_ (i := 10) (N := some 32) (v := ?_) (a' := ?_) #[true, true, true, true, true, true, true, true, true, true, true, false] rfl rfl (any_of HT_.out z13_) (fun _ _ _ h => h) (Or.inl ⟨by rfl, ?_⟩) ?_ ?_; rotate_left
            · intro w'; go_simp; with_reducible rfl
            rotate_left
            · exact zp_
            refine last_ (i := 11) (N := none) #[true, true, true, true, true, true, true, true, true, true, true, true] rfl rfl (one_of HT_.out z13_) (by decide) (fun K hK => ?_); have hs21 : w20.cell? ⟨gb426, 1, none⟩ = some (.int .i64 0) := (blk_cell BK426.out 1).trans rfl; have hfs21 := blk_frozen BK426.out 1; refine skip_ (w1 := ?_) (by rfl) rfl ?_ ?_; rotate_left
            · go_simp; rfl
            refine hK.out _ _ ?_; clear hK K; refine done_ (done_of HT_.out z13_) ?_; (try go_wp2_with (first | ((with_reducible refine gate_callee (f := 87) rfl ?_); refine goesL_ (some 34) rfl rfl Try.func87 z13_ rfl #[.pointer (some ⟨g, 0, none⟩), .int .i64 60] rfl z2_ ?_; (with_reducible refine (spec_l00Src_pick.calls g s0_0 t428 t429 60 t430 t431 t432 w0 _ ?side1 ?side2 A12.out).mono ?_); (case side1 => repeat (first | (with_reducible first | exact HI0.out | apply IsS100.alloc | apply IsS100.drewN | apply IsS100.drew | apply IsS100.set_1 | apply IsS100.set_2 | refine IsS100.far ?_ NB0_426.out _) | exact HI0.out)); (case side2 => repeat (first | (with_reducible first | exact HB.out | apply below_alloc | apply pw_below_drewN | apply below_drew1 | refine below_set ?_ (IsS100.ge HI0.out) | refine below_set ?_ GE426.out) | exact HB.out)); rintro e w22 ⟨rfl, hi, hb, hk⟩; refine ⟨_, rfl, ?_⟩; have n0_ := A_ (Kd.R_mono (Kd.R_keep (IsS100.apart (show IsS100 w0 _ g s0_0 t428 t429 from z44_) (by (with_reducible repeat (first | apply Kd.R_alloc | apply Kd.R_drewN | apply Kd.R_drew)); exact (Kd.R_mono (Kd.R_far (p := ⟨gb426, 1, none⟩) (Kd.R_mono HO_5.out (fun k_ hk => (⟨hk, hk⟩ : _ ∧ k_ ≠ gb426))) (fun _ hk => hk.2) (.int .i64 (Int.tmod (wrap64 ((wrap64 (t423 + 1)) + t427)) (wrap64 (2 + t414))))) (fun _ h_ => h_.1))) (by decide)) hk (fun _ h => h.2)) (fun _ h => h.1)); have n1_ := A_ (KeepBut.blk hk (g' := gb426) (o := .cells #[.int .i64 t423, .int .i64 (Int.tmod (wrap64 ((wrap64 (t423 + 1)) + t427)) (wrap64 (2 + t414))), .int .i64 0] 65 (0, 0)) (by (with_reducible repeat (first | refine blk_drewN ?_ _ | refine blk_drew ?_ | refine blk_alloc ?_ _)); refine blk_put (cs := #[.int .i64 t423, .int .i64 0, .int .i64 0]) ?_ 1 _ rfl; (with_reducible repeat (first | refine blk_drewN ?_ _ | refine blk_drew ?_ | refine blk_alloc ?_ _)); exact BK426.out) NB426_0.out (by simp)); have n2_ := A_ (KeepBut.trans z43_ hk (.inl rfl)); have n3_ := A_ (hb); have n4_ := A_ (hi); clear HO_5; clear BK426; clear HK; clear HB; clear HI0; have HO_5 := n0_; have BK426 := n1_; have HK := n2_; have HB := n3_; have HI0 := n4_; clear n0_ n1_ n2_ n3_ n4_; (try clear hb); (try clear hb2); (try clear hk); (try clear hi); have hcz23_0 : w22.cell? ⟨gb426, 0, none⟩ = some (.int .i64 t423) := (blk_cell BK426.out 0).trans rfl; have hcz23_1 : w22.cell? ⟨gb426, 1, none⟩ = some (.int .i64 (Int.tmod (wrap64 ((wrap64 (t423 + 1)) + t427)) (wrap64 (2 + t414)))) := (blk_cell BK426.out 1).trans rfl; have hcz23_2 : w22.cell? ⟨gb426, 2, none⟩ = some (.int .i64 0) := (blk_cell BK426.out 2).trans rfl; have hfz23_0 := blk_frozen BK426.out 0; have hfz23_1 := blk_frozen BK426.out 1; have hfz23_2 := blk_frozen BK426.out 2) | ((with_reducible refine gate_builtin (b := .append) (xs := #[.tmp 37, .tmp 39]) rfl ?_); at_builtin; refine Kd.R_append k65 w.heap.size rfl (.tmp 37) (.tmp 39) 26 65 (.agg #[(.int .i64 0), (.int .i64 0), (.int .i64 0)]) 24 rfl Try.underlying26 info65 rfl (by decide) (by omega) u5 x5_1 (⟨t423, Int.tmod (wrap64 ((wrap64 (t423 + 1)) + t427)) (wrap64 (2 + t414)), wrap64 (1 + t430)⟩ : S65) [.int .i64 t423, .int .i64 (Int.tmod (wrap64 ((wrap64 (t423 + 1)) + t427)) (wrap64 (2 + t414))), .int .i64 (wrap64 (1 + t430))] (fun k_ => k_ ≠ gb426) (fun _ => False) rfl (by first | (go_simp; done) | (go_simp; rfl)) ?aP (fun _ hk => hk.elim) ?aF ?aO (Below.refl _ _) ?aS ?aL ?_; (case aP => exact k65_mkM _ _ _ (⟨t423, Int.tmod (wrap64 ((wrap64 (t423 + 1)) + t427)) (wrap64 (2 + t414)), wrap64 (1 + t430)⟩ : S65)); (case aF => exact (fun k_ hk => Kd.freshB (g := gb426) (o := .cells #[.int .i64 t423, .int .i64 (Int.tmod (wrap64 ((wrap64 (t423 + 1)) + t427)) (wrap64 (2 + t414))), .int .i64 (wrap64 (1 + t430))] 65 (0, 0)) (by (with_reducible repeat (first | refine blk_drewN ?_ _ | refine blk_drew ?_ | refine blk_alloc ?_ _)); refine blk_put (cs := #[.int .i64 t423, .int .i64 (Int.tmod (wrap64 ((wrap64 (t423 + 1)) + t427)) (wrap64 (2 + t414))), .int .i64 0]) ?_ 2 _ rfl; (with_reducible repeat (first | refine blk_drewN ?_ _ | refine blk_drew ?_ | refine blk_alloc ?_ _)); exact BK426.out) k_ hk)); (case aO => exact (by (with_reducible repeat (first | apply Kd.R_alloc | apply Kd.R_drewN | apply Kd.R_drew)); exact Kd.R_mono (Kd.R_far (p := ⟨gb426, 2, none⟩) (Kd.R_mono HO_5.out (fun k_ hk => (⟨hk, hk⟩ : _ ∧ k_ ≠ gb426))) (fun _ hk => hk.2) (.int .i64 (wrap64 (1 + t430)))) (fun _ hk => hk.1))); (case aS => exact (keep_size (w := w) (g := g) (row := none) z43_)); (case aL => have := LMc13.out; omega); intro v434 w24 ho hb hg hat; rw [← Ny433.out] at ho; have n0_ := A_ (IsS100.grown (show IsS100 w0 _ g s0_0 t431 t432 from z44_) hg (IsS100.own_ne HI0.out HO_5.out (by decide))); have n1_ := A_ (blk_grown (g := gb426) (o := .cells #[.int .i64 t423, .int .i64 (Int.tmod (wrap64 ((wrap64 (t423 + 1)) + t427)) (wrap64 (2 + t414))), .int .i64 (wrap64 (1 + t430))] 65 (0, 0)) (by (with_reducible repeat (first | refine blk_drewN ?_ _ | refine blk_drew ?_ | refine blk_alloc ?_ _)); refine blk_put (cs := #[.int .i64 t423, .int .i64 (Int.tmod (wrap64 ((wrap64 (t423 + 1)) + t427)) (wrap64 (2 + t414))), .int .i64 0]) ?_ 2 _ rfl; (with_reducible repeat (first | refine blk_drewN ?_ _ | refine blk_drew ?_ | refine blk_alloc ?_ _)); exact BK426.out) hg (Kd.R_away HO_5.out (fun _ hk => hk))); have n2_ := A_ (below_weaken z77_ HL.out hb); have n3_ := A_ (KeepBut.trans z43_ (KeepBut.of_grown hg g) (Kd.R_base2 HO_5.out)); have n4_ := A_ (ho); clear HI0; clear BK426; clear HB; clear HK; clear HO_5; have HI0 := n0_; have BK426 := n1_; have HB := n2_; have HK := n3_; have HO435 := n4_; clear n0_ n1_ n2_ n3_ n4_; clear ho hb hg hat))); go_roundg k1
            case measure => have := HK1.out; omega
            case rel => exact ⟨(y433), (wrap64 (x6_1 - 1)), (t431), (t432), z11_, H', ⟨z46_⟩, ⟨by (with_reducible repeat (first | apply Kd.R_alloc | apply Kd.R_drewN | apply Kd.R_drew)); exact Kd.R_mono HO435.out (fun _ hk => trivial)⟩, ⟨z44_⟩, ⟨z43_⟩, ⟨z77_⟩⟩
          · rw [if_neg c13] at H; exact absurd H (by simp)
      · rw [if_neg c8] at H; have c8b0 : decide (0 < x6_1) = false := decide_eq_false c8; clear c8; simp only [Option.some.injEq, Prod.mk.injEq] at H; obtain ⟨rfl, rfl, rfl, rfl⟩ := H; go_wp2; go_ret2; exact ⟨_, z10_, z57_, z19_, z24_, z6_⟩

/-! ### spec_l00From: function 81 -/
def spec_l00From.f (l0 : List Int) : Option (List Int × Int × Int) := some (l0, 0, 0)
set_option maxHeartbeats 8000000 in
set_option maxRecDepth 100000 in
theorem spec_l00From.calls (A0 : Option Addr) (c0 : Nat) (l0 : List Int) (r1 : List Int) (r2 : Int) (r3 : Int) (w0 w : World) (hB : Below w0.heap.size w0 w) (hr0 : Kd.C (Kd.int .u8) w0 A0 l0.length l0) (hc0 : l0.length ≤ c0) (h : spec_l00From.f l0 = some (r1, r2, r3)) :
    Calls Try.prog 81 #[.slice A0 l0.length c0] w fun e w' => ∃ g_ : Nat, e = .returned (.pointer (some ⟨g_, 0, none⟩)) ∧ IsS100 w0 w' g_ r1 r2 r3 ∧ Below w0.heap.size w0 w' ∧ Below w.heap.size w w' := by
  have hu100 := Try.underlying100; have HR0 := A_ hr0; have HC0 := A_ hc0; clear hr0 hc0; have HBW := A_ (Below.refl w.heap.size w); have HW0 := A_ hB.size; have HB := A_ hB; clear hB; have H : (some (l0, 0, 0)) = some (r1, r2, r3) := h; clear h; simp only [Option.some.injEq, Prod.mk.injEq] at H; obtain ⟨rfl, rfl, rfl⟩ := H; go_enter Try.func81, Try.ntmps81; go_wp2_with (first | ((with_reducible refine gate_dst (N := 5) rfl ?_); refine box_event ?hg (N := 5) ?hd (cs := #[.slice A0 l0.length c0, .int .i64 0, .int .u64 0]) (t := 100) ?hr ?_; (case hd => rfl); (case hg => rfl); (case hr => first | (go_simp; done) | (go_simp; rfl)); intro gb436 hg w2 hbox hb; have n0_ := A_ (below_step HBW.out hb); have n1_ := A_ (below_step z0_ hb); have n2_ := A_ (hbox); have n3_ := A_ ((by rw [hg]; exact (below_size (by repeat (first | (with_reducible first | exact HBW.out | apply below_alloc | apply pw_below_drewN | apply below_drew1) | exact HBW.out))) : w.heap.size ≤ gb436)); have n4_ := A_ ((Nat.le_trans HW0.out (by rw [hg]; exact (below_size (by repeat (first | (with_reducible first | exact HBW.out | apply below_alloc | apply pw_below_drewN | apply below_drew1) | exact HBW.out))) : w.heap.size ≤ gb436) : w0.heap.size ≤ gb436)); clear HBW; clear HB; have HBW := n0_; have HB := n1_; have BK436 := n2_; have GW436 := n3_; have GE436 := n4_; clear n0_ n1_ n2_ n3_ n4_; clear hb hbox hg)); go_ret; exact ⟨_, rfl, (show IsS100 w0 _ gb436 l0 0 0 from ⟨_, _, by (with_reducible repeat (first | refine blk_drewN ?_ _ | refine blk_drew ?_ | refine blk_alloc ?_ _)); exact BK436.out, GE436.out, HR0.out⟩), by repeat (first | (with_reducible first | exact HB.out | apply below_alloc | apply pw_below_drewN | apply below_drew1 | refine below_set ?_ GE436.out) | exact HB.out), by repeat (first | (with_reducible first | exact HBW.out | apply below_alloc | apply pw_below_drewN | apply below_drew1 | refine below_set ?_ GW436.out) | exact HBW.out)⟩

/-! ### spec_A2Debts: function 45 -/
def spec_A2Debts.f (k : Nat) (l0 : List Int) : Option (Int × (List (S65))) := (spec_l00From.f l0).bind fun bt437 => ((spec_l02Drawn.f k bt437.1 bt437.2.1 bt437.2.2).bind fun bt441 => (some (bt441.1, bt441.2.1)))
theorem spec_A2Debts.mono : ∀ a0 k, LeO (spec_A2Debts.f k a0) (spec_A2Debts.f (k + 1) a0) := by
  intro a0 k; unfold spec_A2Debts.f
  repeat' first
      | (with_reducible exact spec_l02Drawn.mono _ _ _ _)
      | (with_reducible exact LeO.refl _)
      | (with_reducible exact LeO.none _)
      | (with_reducible refine LeO.ite ?_ ?_)
      | (with_reducible refine LeO.bind ?_ (fun _ => ?_))
      | exact spec_l02Drawn.mono _ _ _ _
      | exact LeO.none _
      | refine LeO.ite ?_ ?_
      | refine LeO.bind ?_ (fun _ => ?_)
set_option maxHeartbeats 8000000 in
set_option maxRecDepth 100000 in
theorem spec_A2Debts.calls (k : Nat) (A0 : Option Addr) (c0 : Nat) (l0 : List Int) (r1 : Int) (r2 : List (S65)) (w : World) (hr0 : Kd.C (Kd.int .u8) w A0 l0.length l0) (hc0 : l0.length ≤ c0) (h : spec_A2Debts.f k l0 = some (r1, r2)) :
    Calls Try.prog 45 #[.slice A0 l0.length c0] w fun e w' => ∃ v1_ : Value, e = .returned (.tuple #[.int .i64 r1, v1_]) ∧ Kd.R k65 65 w' w.heap.size (fun _ => True) v1_ r2 ∧ Below w.heap.size w w' := by
  have HR0 := A_ hr0; have HC0 := A_ hc0; clear hr0 hc0; have HB := A_ (Below.refl w.heap.size w); have H : ((spec_l00From.f l0).bind fun bt437 => ((spec_l02Drawn.f k bt437.1 bt437.2.1 bt437.2.2).bind fun bt441 => (some (bt441.1, bt441.2.1)))) = some (r1, r2) := h; clear h; replace H := Option.bind_eq_some_iff.mp H; obtain ⟨⟨t437, t438, t439⟩, A20, H⟩ := H; replace H : ((spec_l02Drawn.f k t437 t438 t439).bind fun bt441 => (some (bt441.1, bt441.2.1))) = some (r1, r2) := H; have A2 := A_ A20; clear A20; replace H := Option.bind_eq_some_iff.mp H; obtain ⟨⟨t441, t442, t445, t446⟩, A30, H⟩ := H; replace H : (some (t441, t442)) = some (r1, r2) := H; have A3 := A_ A30; clear A30; simp only [Option.some.injEq, Prod.mk.injEq] at H; obtain ⟨rfl, rfl⟩ := H; go_enter Try.func45, Try.ntmps45; go_wp2_with (first | ((with_reducible refine gate_callee (f := 81) rfl ?_); refine goesL_ (some 5) rfl rfl Try.func81 z13_ rfl #[.slice A0 l0.length c0] rfl z2_ ?_; (with_reducible refine (spec_l00From.calls _ _ l0 t437 t438 t439 w _ ?side1 ?side2 ?side3 A2.out).mono ?_); (case side1 => repeat (first | (with_reducible first | exact HB.out | apply below_alloc | apply pw_below_drewN | apply below_drew1) | exact HB.out)); (case side2 => exact HR0.out); (case side3 => exact HC0.out); rintro e w4 ⟨g440, rfl, hi, hb, hb2⟩; refine ⟨_, rfl, ?_⟩; have n0_ := A_ (hb); have n1_ := A_ (hi); clear HB; have HB := n0_; have HI440 := n1_; clear n0_ n1_; (try clear hb); (try clear hb2); (try clear hk); (try clear hi)) | ((with_reducible refine gate_callee (f := 80) rfl ?_); refine goesL_ (some 6) rfl rfl Try.func80 z13_ rfl #[.pointer (some ⟨g440, 0, none⟩)] rfl z2_ ?_; (with_reducible refine (spec_l02Drawn.calls k g440 t437 t438 t439 t441 t442 t445 t446 w _ ?side1 ?side2 A3.out).mono ?_); (case side1 => repeat (first | (with_reducible first | exact HI440.out | apply IsS100.alloc | apply IsS100.drewN | apply IsS100.drew | apply IsS100.set_1 | apply IsS100.set_2) | exact HI440.out)); (case side2 => repeat (first | (with_reducible first | exact HB.out | apply below_alloc | apply pw_below_drewN | apply below_drew1 | refine below_set ?_ (IsS100.ge HI440.out)) | exact HB.out)); rintro e w5 ⟨v443, rfl, ho0, hi, hb, hk⟩; refine ⟨_, rfl, ?_⟩; have n0_ := A_ (Kd.R_lower ho0 (below_size (by repeat (first | (with_reducible first | exact HB.out | apply below_alloc | apply pw_below_drewN | apply below_drew1 | refine below_set ?_ (IsS100.ge HI440.out)) | exact HB.out)))); have n1_ := A_ (hb); have n2_ := A_ (hi); clear HB; clear HI440; have HO444 := n0_; have HB := n1_; have HI440 := n2_; clear n0_ n1_ n2_; (try clear hb); (try clear hb2); (try clear hk); (try clear hi); (try clear ho0))); go_ret2; exact ⟨_, z10_, by (with_reducible repeat (first | apply Kd.R_alloc | apply Kd.R_drewN | apply Kd.R_drew)); exact HO444.out, by repeat (first | (with_reducible first | exact HB.out | apply below_alloc | apply pw_below_drewN | apply below_drew1 | refine below_set ?_ (IsS100.ge HI440.out)) | exact HB.out)⟩

/-! ### spec_l00Same: function 73 -/
def spec_l00Same.l0 : Nat → List Int → List Int → Int → Option (Bool)
  | 0, _, _, _ => none
  | k + 1, x0, x1, x5 => if x5 < (x0.length : Int) then (if 0 ≤ x5 then (if x5 < (x1.length : Int) then (if (rd x0 x5) = (rd x1 x5) then (spec_l00Same.l0 k x0 x1 (wrap64 (x5 + 1))) else (some false)) else (none)) else (none)) else (some true)
def spec_l00Same.f (k : Nat) (l0 : List Int) (l1 : List Int) : Option (Bool) := if (l0.length : Int) = (l1.length : Int) then (spec_l00Same.l0 k l0 l1 0) else (some false)
theorem spec_l00Same.mono_l : ∀ k, (∀ y0 y1 y2, LeO (spec_l00Same.l0 k y0 y1 y2) (spec_l00Same.l0 (k + 1) y0 y1 y2))
  | 0 => fun _ _ _ r h => by simp [spec_l00Same.l0] at h
  | k + 1 => by
    have ih0 := spec_l00Same.mono_l k
    · intro y0 y1 y2
      unfold spec_l00Same.l0
      repeat' first
      | (with_reducible exact ih0 _ _ _)
      | (with_reducible exact LeO.refl _)
      | (with_reducible exact LeO.none _)
      | (with_reducible refine LeO.ite ?_ ?_)
      | (with_reducible refine LeO.bind ?_ (fun _ => ?_))
      | exact ih0 _ _ _
      | exact LeO.none _
      | refine LeO.ite ?_ ?_
      | refine LeO.bind ?_ (fun _ => ?_)
theorem spec_l00Same.mono : ∀ a0 a1 k, LeO (spec_l00Same.f k a0 a1) (spec_l00Same.f (k + 1) a0 a1) := by
  intro a0 a1 k; have ih0 := spec_l00Same.mono_l k; unfold spec_l00Same.f
  repeat' first
      | (with_reducible exact ih0 _ _ _)
      | (with_reducible exact LeO.refl _)
      | (with_reducible exact LeO.none _)
      | (with_reducible refine LeO.ite ?_ ?_)
      | (with_reducible refine LeO.bind ?_ (fun _ => ?_))
      | exact ih0 _ _ _
      | exact LeO.none _
      | refine LeO.ite ?_ ?_
      | refine LeO.bind ?_ (fun _ => ?_)
set_option maxHeartbeats 8000000 in
set_option maxRecDepth 100000 in
theorem spec_l00Same.calls (k : Nat) (A0 : Option Addr) (c0 : Nat) (l0 : List Int) (A1 : Option Addr) (c1 : Nat) (l1 : List Int) (r : Bool) (w : World) (hr0 : Kd.C (Kd.int .i64) w A0 l0.length l0) (hc0 : l0.length ≤ c0) (hr1 : Kd.C (Kd.int .i64) w A1 l1.length l1) (hc1 : l1.length ≤ c1) (h : spec_l00Same.f k l0 l1 = some r) :
    Calls Try.prog 73 #[.slice A0 l0.length c0, .slice A1 l1.length c1] w fun e w' => e = .returned (.bool r) ∧ Drawn0 w w' := by
  have HR0 := A_ hr0; have HC0 := A_ hc0; clear hr0 hc0; have HR1 := A_ hr1; have HC1 := A_ hc1; clear hr1 hc1; have H : (if (l0.length : Int) = (l1.length : Int) then (spec_l00Same.l0 k l0 l1 0) else (some false)) = some r := h; clear h; by_cases c3 : (l0.length : Int) = (l1.length : Int)
  · rw [if_pos c3] at H; have c3b0 : ((l0.length : Int) == (l1.length : Int)) = true := beq_iff_eq.mpr c3; have c3b1 : ((l0.length : Int) != (l1.length : Int)) = false := bne_eq_false_iff_eq.mpr c3; (have c3b2 : (l0.length == l1.length) = true := z96_); clear c3; have H' := A_ H; clear H; go_enter Try.func73, Try.ntmps73; go_wp2; (repeat (go_quiet (fail); try go_wp2)); go_loopg [5] k (fun kq v5 w' => ∃ (x5_1 : Int), v5 = .int .i64 x5_1 ∧ Aside0 (spec_l00Same.l0 kq l0 l1 x5_1 = some r) ∧ Aside0 (kq ≤ k) ∧ Drawn0 w w')
    case atStart => exact ⟨(0), z11_, H', ⟨Nat.le_refl _⟩, z21_⟩
    case round =>
      clear H'; (try clear c1); (try clear p2); (try clear c3); (try clear c3b0); (try clear c3b1); (try clear c3b2); obtain ⟨x5_1, rfl, HA, HK1, ⟨m1, rfl⟩⟩ := hrel
      cases gk with
      | zero => exact absurd HA.out (by simp [spec_l00Same.l0])
      | succ k1 =>
        have H := HA.out; clear HA; simp only [spec_l00Same.l0] at H; by_cases c4 : x5_1 < (l0.length : Int)
        · rw [if_pos c4] at H; have c4b0 : decide (x5_1 < (l0.length : Int)) = true := decide_eq_true c4; clear c4; by_cases c5 : 0 ≤ x5_1
          · rw [if_pos c5] at H; have c5b0 : decide (0 ≤ x5_1) = true := decide_eq_true c5; clear c5; by_cases c6 : x5_1 < (l1.length : Int)
            · rw [if_pos c6] at H; have c6b0 : decide (x5_1 < (l1.length : Int)) = true := decide_eq_true c6; clear c6; by_cases c7 : (rd l0 x5_1) = (rd l1 x5_1)
              · rw [if_pos c7] at H; have c7b0 : ((rd l0 x5_1) == (rd l1 x5_1)) = true := beq_iff_eq.mpr c7; have c7b1 : ((rd l0 x5_1) != (rd l1 x5_1)) = false := bne_eq_false_iff_eq.mpr c7; clear c7; have H' := A_ H; clear H; have p447 : 0 ≤ (x5_1 : Int) := of_decide_eq_true z3_; have q447 : x5_1 < (l0.length : Int) := of_decide_eq_true z3_; obtain ⟨ad447, e447, hx447_0⟩ := Kd.at_int HR0.out x5_1 p447 q447; cases e447; replace p447 := eq_true p447; replace q447 := eq_true q447; have p448 : 0 ≤ (x5_1 : Int) := of_decide_eq_true z3_; have q448 : x5_1 < (l1.length : Int) := of_decide_eq_true z3_; obtain ⟨ad448, e448, hx448_0⟩ := Kd.at_int HR1.out x5_1 p448 q448; cases e448; replace p448 := eq_true p448; replace q448 := eq_true q448; go_wp2; (repeat (go_quiet (fail); try go_wp2)); go_roundg k1
                case measure => have := HK1.out; omega
                case rel => exact ⟨(wrap64 (x5_1 + 1)), z11_, H', ⟨z46_⟩, z21_⟩
              · rw [if_neg c7] at H; have c7b0 : ((rd l0 x5_1) == (rd l1 x5_1)) = false := beq_eq_false_iff_ne.mpr c7; have c7b1 : ((rd l0 x5_1) != (rd l1 x5_1)) = true := bne_iff_ne.mpr c7; obtain rfl := Option.some.inj H; have p447 : 0 ≤ (x5_1 : Int) := of_decide_eq_true z3_; have q447 : x5_1 < (l0.length : Int) := of_decide_eq_true z3_; obtain ⟨ad447, e447, hx447_0⟩ := Kd.at_int HR0.out x5_1 p447 q447; cases e447; replace p447 := eq_true p447; replace q447 := eq_true q447; have p448 : 0 ≤ (x5_1 : Int) := of_decide_eq_true z3_; have q448 : x5_1 < (l1.length : Int) := of_decide_eq_true z3_; obtain ⟨ad448, e448, hx448_0⟩ := Kd.at_int HR1.out x5_1 p448 q448; cases e448; replace p448 := eq_true p448; replace q448 := eq_true q448; go_wp2; (repeat (go_quiet (fail); try go_wp2)); go_ret; exact ⟨z11_, z21_⟩
            · rw [if_neg c6] at H; exact absurd H (by simp)
          · rw [if_neg c5] at H; exact absurd H (by simp)
        · rw [if_neg c4] at H; have c4b0 : decide (x5_1 < (l0.length : Int)) = false := decide_eq_false c4; clear c4; obtain rfl := Option.some.inj H; go_wp2; (repeat (go_quiet (fail); try go_wp2)); go_ret; exact ⟨z11_, z21_⟩
  · rw [if_neg c3] at H; have c3b0 : ((l0.length : Int) == (l1.length : Int)) = false := beq_eq_false_iff_ne.mpr c3; have c3b1 : ((l0.length : Int) != (l1.length : Int)) = true := bne_iff_ne.mpr c3; (have c3b2 : (l0.length == l1.length) = false := z96_); obtain rfl := Option.some.inj H; go_enter Try.func73, Try.ntmps73; go_wp2; (repeat (go_quiet (fail); try go_wp2)); go_ret; exact ⟨z11_, z21_⟩

/-! ### spec_A2Same: function 46 -/
def spec_A2Same.f (k : Nat) (l0 : List Int) (l1 : List Int) : Option (Bool) := (spec_l00Same.f k l0 l1).bind fun t449 => (some t449)
theorem spec_A2Same.mono : ∀ a0 a1 k, LeO (spec_A2Same.f k a0 a1) (spec_A2Same.f (k + 1) a0 a1) := by
  intro a0 a1 k; unfold spec_A2Same.f
  repeat' first
      | (with_reducible exact spec_l00Same.mono _ _ _)
      | (with_reducible exact LeO.refl _)
      | (with_reducible exact LeO.none _)
      | (with_reducible refine LeO.ite ?_ ?_)
      | (with_reducible refine LeO.bind ?_ (fun _ => ?_))
      | exact spec_l00Same.mono _ _ _
      | exact LeO.none _
      | refine LeO.ite ?_ ?_
      | refine LeO.bind ?_ (fun _ => ?_)
set_option maxHeartbeats 8000000 in
set_option maxRecDepth 100000 in
theorem spec_A2Same.calls (k : Nat) (A0 : Option Addr) (c0 : Nat) (l0 : List Int) (A1 : Option Addr) (c1 : Nat) (l1 : List Int) (r : Bool) (w : World) (hr0 : Kd.C (Kd.int .i64) w A0 l0.length l0) (hc0 : l0.length ≤ c0) (hr1 : Kd.C (Kd.int .i64) w A1 l1.length l1) (hc1 : l1.length ≤ c1) (h : spec_A2Same.f k l0 l1 = some r) :
    Calls Try.prog 46 #[.slice A0 l0.length c0, .slice A1 l1.length c1] w fun e w' => e = .returned (.bool r) ∧ Drawn0 w w' := by
  have HR0 := A_ hr0; have HC0 := A_ hc0; clear hr0 hc0; have HR1 := A_ hr1; have HC1 := A_ hc1; clear hr1 hc1; have H : ((spec_l00Same.f k l0 l1).bind fun t449 => (some t449)) = some r := h; clear h; replace H := Option.bind_eq_some_iff.mp H; obtain ⟨t449, A30, H⟩ := H; replace H : (some t449) = some r := H; have A3 := A_ A30; clear A30; obtain rfl := Option.some.inj H; go_enter Try.func46, Try.ntmps46; go_wp2_with (first | ((with_reducible refine gate_callee (f := 73) rfl ?_); refine goesL_ (some 7) rfl rfl Try.func73 z13_ rfl #[.slice A0 l0.length c0, .slice A1 l1.length c1] rfl z2_ ?_; (with_reducible refine (spec_l00Same.calls k _ _ l0 _ _ l1 t449 _ ?side1 ?side2 ?side3 ?side4 A3.out).mono ?_); (case side1 => repeat (first | exact HR0.out | (with_reducible refine Kd.C_alloc ?_ _) | (with_reducible refine Kd.C_drewN ?_ _) | (with_reducible refine Kd.C_drew ?_))); (case side2 => exact HC0.out); (case side3 => repeat (first | exact HR1.out | (with_reducible refine Kd.C_alloc ?_ _) | (with_reducible refine Kd.C_drewN ?_ _) | (with_reducible refine Kd.C_drew ?_))); (case side4 => exact HC1.out); rintro e w' ⟨rfl, ⟨nd, rfl⟩⟩; refine ⟨_, rfl, ?_⟩)); go_ret; exact ⟨z11_, z21_⟩

/-! ### spec_l02Same: function 82 -/
def spec_l02Same.l0 : Nat → List (S65) → List (S65) → Int → Option (Bool)
  | 0, _, _, _ => none
  | k + 1, x0, x1, x5 => if x5 < (x0.length : Int) then (if 0 ≤ x5 then (if x5 < (x1.length : Int) then (if (!(((rd_T65 x0 x5).f0) == ((rd_T65 x1 x5).f0)) || (!(((rd_T65 x0 x5).f1) == ((rd_T65 x1 x5).f1)) || (!(((rd_T65 x0 x5).f2) == ((rd_T65 x1 x5).f2))))) = true then (some false) else (spec_l02Same.l0 k x0 x1 (wrap64 (x5 + 1)))) else (none)) else (none)) else (some true)
def spec_l02Same.f (k : Nat) (l0 : List (S65)) (l1 : List (S65)) : Option (Bool) := if (l0.length : Int) = (l1.length : Int) then (spec_l02Same.l0 k l0 l1 0) else (some false)
theorem spec_l02Same.mono_l : ∀ k, (∀ y0 y1 y2, LeO (spec_l02Same.l0 k y0 y1 y2) (spec_l02Same.l0 (k + 1) y0 y1 y2))
  | 0 => fun _ _ _ r h => by simp [spec_l02Same.l0] at h
  | k + 1 => by
    have ih0 := spec_l02Same.mono_l k
    · intro y0 y1 y2
      unfold spec_l02Same.l0
      repeat' first
      | (with_reducible exact ih0 _ _ _)
      | (with_reducible exact LeO.refl _)
      | (with_reducible exact LeO.none _)
      | (with_reducible refine LeO.ite ?_ ?_)
      | (with_reducible refine LeO.bind ?_ (fun _ => ?_))
      | exact ih0 _ _ _
      | exact LeO.none _
      | refine LeO.ite ?_ ?_
      | refine LeO.bind ?_ (fun _ => ?_)
theorem spec_l02Same.mono : ∀ a0 a1 k, LeO (spec_l02Same.f k a0 a1) (spec_l02Same.f (k + 1) a0 a1) := by
  intro a0 a1 k; have ih0 := spec_l02Same.mono_l k; unfold spec_l02Same.f
  repeat' first
      | (with_reducible exact ih0 _ _ _)
      | (with_reducible exact LeO.refl _)
      | (with_reducible exact LeO.none _)
      | (with_reducible refine LeO.ite ?_ ?_)
      | (with_reducible refine LeO.bind ?_ (fun _ => ?_))
      | exact ih0 _ _ _
      | exact LeO.none _
      | refine LeO.ite ?_ ?_
      | refine LeO.bind ?_ (fun _ => ?_)
set_option maxHeartbeats 8000000 in
set_option maxRecDepth 100000 in
theorem spec_l02Same.calls (k : Nat) (A0 : Option Addr) (c0 : Nat) (l0 : List (S65)) (A1 : Option Addr) (c1 : Nat) (l1 : List (S65)) (r : Bool) (w : World) (hr0 : Kd.C k65 w A0 l0.length l0) (hc0 : l0.length ≤ c0) (hr1 : Kd.C k65 w A1 l1.length l1) (hc1 : l1.length ≤ c1) (h : spec_l02Same.f k l0 l1 = some r) :
    Calls Try.prog 82 #[.slice A0 l0.length c0, .slice A1 l1.length c1] w fun e w' => e = .returned (.bool r) ∧ Drawn0 w w' := by
  have hu65 := Try.underlying65; have HR0 := A_ hr0; have HC0 := A_ hc0; clear hr0 hc0; have HR1 := A_ hr1; have HC1 := A_ hc1; clear hr1 hc1; have H : (if (l0.length : Int) = (l1.length : Int) then (spec_l02Same.l0 k l0 l1 0) else (some false)) = some r := h; clear h; by_cases c3 : (l0.length : Int) = (l1.length : Int)
  · rw [if_pos c3] at H; have c3b0 : ((l0.length : Int) == (l1.length : Int)) = true := beq_iff_eq.mpr c3; have c3b1 : ((l0.length : Int) != (l1.length : Int)) = false := bne_eq_false_iff_eq.mpr c3; (have c3b2 : (l0.length == l1.length) = true := z96_); clear c3; have H' := A_ H; clear H; go_enter Try.func82, Try.ntmps82; go_wp2; (repeat (go_quiet (fail); try go_wp2)); go_loopg [5] k (fun kq v5 w' => ∃ (x5_1 : Int), v5 = .int .i64 x5_1 ∧ Aside0 (spec_l02Same.l0 kq l0 l1 x5_1 = some r) ∧ Aside0 (kq ≤ k) ∧ Drawn0 w w')
    case atStart => exact ⟨(0), z11_, H', ⟨Nat.le_refl _⟩, z21_⟩
    case round =>
      clear H'; (try clear c1); (try clear p2); (try clear c3); (try clear c3b0); (try clear c3b1); (try clear c3b2); obtain ⟨x5_1, rfl, HA, HK1, ⟨m1, rfl⟩⟩ := hrel
      cases gk with
      | zero => exact absurd HA.out (by simp [spec_l02Same.l0])
      | succ k1 =>
        have H := HA.out; clear HA; simp only [spec_l02Same.l0] at H; by_cases c4 : x5_1 < (l0.length : Int)
        · rw [if_pos c4] at H; have c4b0 : decide (x5_1 < (l0.length : Int)) = true := decide_eq_true c4; clear c4; by_cases c5 : 0 ≤ x5_1
          · rw [if_pos c5] at H; have c5b0 : decide (0 ≤ x5_1) = true := decide_eq_true c5; clear c5; by_cases c6 : x5_1 < (l1.length : Int)
            · rw [if_pos c6] at H; have c6b0 : decide (x5_1 < (l1.length : Int)) = true := decide_eq_true c6; clear c6; by_cases c7 : (!(((rd_T65 l0 x5_1).f0) == ((rd_T65 l1 x5_1).f0)) || (!(((rd_T65 l0 x5_1).f1) == ((rd_T65 l1 x5_1).f1)) || (!(((rd_T65 l0 x5_1).f2) == ((rd_T65 l1 x5_1).f2))))) = true
              · rw [if_pos c7] at H; have c7b0 : (!(((rd_T65 l0 x5_1).f0) == ((rd_T65 l1 x5_1).f0)) || (!(((rd_T65 l0 x5_1).f1) == ((rd_T65 l1 x5_1).f1)) || (!(((rd_T65 l0 x5_1).f2) == ((rd_T65 l1 x5_1).f2))))) = true := c7; clear c7; obtain rfl := Option.some.inj H; have p450 : 0 ≤ (x5_1 : Int) := of_decide_eq_true z3_; have q450 : x5_1 < (l0.length : Int) := of_decide_eq_true z3_; obtain ⟨ad450, e450, hx450_0, hx450_1, hx450_2⟩ := at_T65 HR0.out x5_1 p450 q450; cases e450; replace p450 := eq_true p450; replace q450 := eq_true q450; have p451 : 0 ≤ (x5_1 : Int) := of_decide_eq_true z3_; have q451 : x5_1 < (l1.length : Int) := of_decide_eq_true z3_; obtain ⟨ad451, e451, hx451_0, hx451_1, hx451_2⟩ := at_T65 HR1.out x5_1 p451 q451; cases e451; replace p451 := eq_true p451; replace q451 := eq_true q451; go_wp2; (repeat (go_quiet (fail); try go_wp2)); go_ret; exact ⟨z11_, z21_⟩
              · rw [if_neg c7] at H; (have c7b0 : (!(((rd_T65 l0 x5_1).f0) == ((rd_T65 l1 x5_1).f0)) || (!(((rd_T65 l0 x5_1).f1) == ((rd_T65 l1 x5_1).f1)) || (!(((rd_T65 l0 x5_1).f2) == ((rd_T65 l1 x5_1).f2))))) = false := by simpa using c7); clear c7; have H' := A_ H; clear H; have p450 : 0 ≤ (x5_1 : Int) := of_decide_eq_true z3_; have q450 : x5_1 < (l0.length : Int) := of_decide_eq_true z3_; obtain ⟨ad450, e450, hx450_0, hx450_1, hx450_2⟩ := at_T65 HR0.out x5_1 p450 q450; cases e450; replace p450 := eq_true p450; replace q450 := eq_true q450; have p451 : 0 ≤ (x5_1 : Int) := of_decide_eq_true z3_; have q451 : x5_1 < (l1.length : Int) := of_decide_eq_true z3_; obtain ⟨ad451, e451, hx451_0, hx451_1, hx451_2⟩ := at_T65 HR1.out x5_1 p451 q451; cases e451; replace p451 := eq_true p451; replace q451 := eq_true q451; go_wp2; (repeat (go_quiet (fail); try go_wp2)); go_roundg k1
                case measure => have := HK1.out; omega
                case rel => exact ⟨(wrap64 (x5_1 + 1)), z11_, H', ⟨z46_⟩, z21_⟩
            · rw [if_neg c6] at H; exact absurd H (by simp)
          · rw [if_neg c5] at H; exact absurd H (by simp)
        · rw [if_neg c4] at H; have c4b0 : decide (x5_1 < (l0.length : Int)) = false := decide_eq_false c4; clear c4; obtain rfl := Option.some.inj H; go_wp2; (repeat (go_quiet (fail); try go_wp2)); go_ret; exact ⟨z11_, z21_⟩
  · rw [if_neg c3] at H; have c3b0 : ((l0.length : Int) == (l1.length : Int)) = false := beq_eq_false_iff_ne.mpr c3; have c3b1 : ((l0.length : Int) != (l1.length : Int)) = true := bne_iff_ne.mpr c3; (have c3b2 : (l0.length == l1.length) = false := z96_); obtain rfl := Option.some.inj H; go_enter Try.func82, Try.ntmps82; go_wp2; (repeat (go_quiet (fail); try go_wp2)); go_ret; exact ⟨z11_, z21_⟩

/-! ### spec_SameDebts: function 47 -/
def spec_SameDebts.f (k : Nat) (l0 : List (S65)) (l1 : List (S65)) : Option (Bool) := (spec_l02Same.f k l0 l1).bind fun t452 => (some t452)
theorem spec_SameDebts.mono : ∀ a0 a1 k, LeO (spec_SameDebts.f k a0 a1) (spec_SameDebts.f (k + 1) a0 a1) := by
  intro a0 a1 k; unfold spec_SameDebts.f
  repeat' first
      | (with_reducible exact spec_l02Same.mono _ _ _)
      | (with_reducible exact LeO.refl _)
      | (with_reducible exact LeO.none _)
      | (with_reducible refine LeO.ite ?_ ?_)
      | (with_reducible refine LeO.bind ?_ (fun _ => ?_))
      | exact spec_l02Same.mono _ _ _
      | exact LeO.none _
      | refine LeO.ite ?_ ?_
      | refine LeO.bind ?_ (fun _ => ?_)
set_option maxHeartbeats 8000000 in
set_option maxRecDepth 100000 in
theorem spec_SameDebts.calls (k : Nat) (A0 : Option Addr) (c0 : Nat) (l0 : List (S65)) (A1 : Option Addr) (c1 : Nat) (l1 : List (S65)) (r : Bool) (w : World) (hr0 : Kd.C k65 w A0 l0.length l0) (hc0 : l0.length ≤ c0) (hr1 : Kd.C k65 w A1 l1.length l1) (hc1 : l1.length ≤ c1) (h : spec_SameDebts.f k l0 l1 = some r) :
    Calls Try.prog 47 #[.slice A0 l0.length c0, .slice A1 l1.length c1] w fun e w' => e = .returned (.bool r) ∧ Drawn0 w w' := by
  have HR0 := A_ hr0; have HC0 := A_ hc0; clear hr0 hc0; have HR1 := A_ hr1; have HC1 := A_ hc1; clear hr1 hc1; have H : ((spec_l02Same.f k l0 l1).bind fun t452 => (some t452)) = some r := h; clear h; replace H := Option.bind_eq_some_iff.mp H; obtain ⟨t452, A30, H⟩ := H; replace H : (some t452) = some r := H; have A3 := A_ A30; clear A30; obtain rfl := Option.some.inj H; go_enter Try.func47, Try.ntmps47; go_wp2_with (first | ((with_reducible refine gate_callee (f := 82) rfl ?_); refine goesL_ (some 7) rfl rfl Try.func82 z13_ rfl #[.slice A0 l0.length c0, .slice A1 l1.length c1] rfl z2_ ?_; (with_reducible refine (spec_l02Same.calls k _ _ l0 _ _ l1 t452 _ ?side1 ?side2 ?side3 ?side4 A3.out).mono ?_); (case side1 => repeat (first | exact HR0.out | (with_reducible refine Kd.C_alloc ?_ _) | (with_reducible refine Kd.C_drewN ?_ _) | (with_reducible refine Kd.C_drew ?_))); (case side2 => exact HC0.out); (case side3 => repeat (first | exact HR1.out | (with_reducible refine Kd.C_alloc ?_ _) | (with_reducible refine Kd.C_drewN ?_ _) | (with_reducible refine Kd.C_drew ?_))); (case side4 => exact HC1.out); rintro e w' ⟨rfl, ⟨nd, rfl⟩⟩; refine ⟨_, rfl, ?_⟩)); go_ret; exact ⟨z11_, z21_⟩

/-! ### impl_SumOfDebts: function 48 -/
def impl_SumOfDebts.l0 : Nat → Int → List (S65) → Int → Int → Option (Int × Int)
  | 0, _, _, _, _ => none
  | k + 1, x6, x13, x14, x15 => if x15 < x14 then (if 0 ≤ x15 then (if x15 < (x13.length : Int) then (impl_SumOfDebts.l0 k (wrap64 (x6 + ((rd_T65 x13 x15).f2))) x13 x14 (wrap64 (x15 + 1))) else (none)) else (none)) else (some (x6, 0))
def impl_SumOfDebts.f (k : Nat) (a0 : Int) (l1 : List (S65)) : Option (Int × Int) := (impl_ValidDebts.f k a0 l1).bind fun t453 => (if t453 = true then (impl_SumOfDebts.l0 k 0 l1 (l1.length : Int) 0) else (some (0, 1)))
theorem impl_SumOfDebts.mono_l : ∀ k, (∀ y0 y1 y2 y3, LeO (impl_SumOfDebts.l0 k y0 y1 y2 y3) (impl_SumOfDebts.l0 (k + 1) y0 y1 y2 y3))
  | 0 => fun _ _ _ _ r h => by simp [impl_SumOfDebts.l0] at h
  | k + 1 => by
    have ih0 := impl_SumOfDebts.mono_l k
    · intro y0 y1 y2 y3
      unfold impl_SumOfDebts.l0
      repeat' first
      | (with_reducible exact ih0 _ _ _ _)
      | (with_reducible exact impl_ValidDebts.mono _ _ _)
      | (with_reducible exact LeO.refl _)
      | (with_reducible exact LeO.none _)
      | (with_reducible refine LeO.ite ?_ ?_)
      | (with_reducible refine LeO.bind ?_ (fun _ => ?_))
      | exact ih0 _ _ _ _
      | exact impl_ValidDebts.mono _ _ _
      | exact LeO.none _
      | refine LeO.ite ?_ ?_
      | refine LeO.bind ?_ (fun _ => ?_)
theorem impl_SumOfDebts.mono : ∀ a0 a1 k, LeO (impl_SumOfDebts.f k a0 a1) (impl_SumOfDebts.f (k + 1) a0 a1) := by
  intro a0 a1 k; have ih0 := impl_SumOfDebts.mono_l k; unfold impl_SumOfDebts.f
  repeat' first
      | (with_reducible exact ih0 _ _ _ _)
      | (with_reducible exact impl_ValidDebts.mono _ _ _)
      | (with_reducible exact LeO.refl _)
      | (with_reducible exact LeO.none _)
      | (with_reducible refine LeO.ite ?_ ?_)
      | (with_reducible refine LeO.bind ?_ (fun _ => ?_))
      | exact ih0 _ _ _ _
      | exact impl_ValidDebts.mono _ _ _
      | exact LeO.none _
      | refine LeO.ite ?_ ?_
      | refine LeO.bind ?_ (fun _ => ?_)
set_option maxHeartbeats 8000000 in
set_option maxRecDepth 100000 in
theorem impl_SumOfDebts.calls (k : Nat) (a0 : Int) (A1 : Option Addr) (c1 : Nat) (l1 : List (S65)) (r1 : Int) (r2 : Int) (w : World) (hr1 : Kd.C k65 w A1 l1.length l1) (hc1 : l1.length ≤ c1) (h : impl_SumOfDebts.f k a0 l1 = some (r1, r2)) :
    Calls Try.prog 48 #[.int .i64 a0, .slice A1 l1.length c1] w fun e w' => e = .returned (.tuple #[.int .i64 r1, .int .i64 r2]) ∧ Below w.heap.size w w' := by
  have hu65 := Try.underlying65; have HR1 := A_ hr1; have HC1 := A_ hc1; clear hr1 hc1; have HB := A_ (Below.refl w.heap.size w); have H : ((impl_ValidDebts.f k a0 l1).bind fun t453 => (if t453 = true then (impl_SumOfDebts.l0 k 0 l1 (l1.length : Int) 0) else (some (0, 1)))) = some (r1, r2) := h; clear h; replace H := Option.bind_eq_some_iff.mp H; obtain ⟨t453, A30, H⟩ := H; replace H : (if t453 = true then (impl_SumOfDebts.l0 k 0 l1 (l1.length : Int) 0) else (some (0, 1))) = some (r1, r2) := H; have A3 := A_ A30; clear A30; by_cases c4 : t453 = true
  · subst c4; (have H1 : (impl_SumOfDebts.l0 k 0 l1 (l1.length : Int) 0) = some (r1, r2) := z36_); clear H; have H := H1; clear H1; have H' := A_ H; clear H; go_enter Try.func48, Try.ntmps48; go_wp2_with (first | ((with_reducible refine gate_callee (f := 61) rfl ?_); refine goesL_ (some 11) rfl rfl Try.func61 z13_ rfl #[.int .i64 a0, .slice A1 l1.length c1] rfl z2_ ?_; (with_reducible refine (impl_ValidDebts.calls k a0 _ _ l1 true _ ?side1 ?side2 A3.out).mono ?_); (case side1 => repeat (first | exact HR1.out | (with_reducible refine Kd.C_alloc ?_ _) | (with_reducible refine Kd.C_drewN ?_ _) | (with_reducible refine Kd.C_drew ?_))); (case side2 => exact HC1.out); rintro e w5 ⟨rfl, hb⟩; refine ⟨_, rfl, ?_⟩; have n0_ := A_ (below_step z0_ hb); clear HB; have HB := n0_; clear n0_; (try clear hb); (try clear hb2); (try clear hk); (try clear hi))); go_loopg [6, 15] k (fun kq v6 v15 w' => ∃ (x6_1 : Int) (x15_1 : Int), v6 = .int .i64 x6_1 ∧ v15 = .int .i64 x15_1 ∧ Aside0 (impl_SumOfDebts.l0 kq x6_1 l1 (l1.length : Int) x15_1 = some (r1, r2)) ∧ Aside0 (kq ≤ k) ∧ Aside0 (Below w.heap.size w w'))
    case atStart => exact ⟨(0), (0), z11_, z11_, H', ⟨Nat.le_refl _⟩, ⟨z0_⟩⟩
    case round =>
      clear H'; (try clear c1); (try clear p2); (try clear c4); obtain ⟨x6_1, x15_1, rfl, rfl, HA, HK1, HB⟩ := hrel
      cases gk with
      | zero => exact absurd HA.out (by simp [impl_SumOfDebts.l0])
      | succ k1 =>
        have H := HA.out; clear HA; simp only [impl_SumOfDebts.l0] at H; by_cases c6 : x15_1 < (l1.length : Int)
        · rw [if_pos c6] at H; have c6b0 : decide (x15_1 < (l1.length : Int)) = true := decide_eq_true c6; clear c6; by_cases c7 : 0 ≤ x15_1
          · rw [if_pos c7] at H; have c7b0 : decide (0 ≤ x15_1) = true := decide_eq_true c7; clear c7; by_cases c8 : x15_1 < (l1.length : Int)
            · rw [if_pos c8] at H; have c8b0 : decide (x15_1 < (l1.length : Int)) = true := decide_eq_true c8; clear c8; have H' := A_ H; clear H; have p454 : 0 ≤ (x15_1 : Int) := of_decide_eq_true z3_; have q454 : x15_1 < (l1.length : Int) := of_decide_eq_true z3_; obtain ⟨ad454, e454, hx454_0, hx454_1, hx454_2⟩ := at_T65 HR1.out x15_1 p454 q454; cases e454; replace hx454_0 := (HB.out.cell (bl_ w _ hx454_0)).trans hx454_0; replace hx454_1 := (HB.out.cell (bl_ w _ hx454_1)).trans hx454_1; replace hx454_2 := (HB.out.cell (bl_ w _ hx454_2)).trans hx454_2; replace p454 := eq_true p454; replace q454 := eq_true q454; go_wp2_with (first | ((with_reducible refine gate_dst (N := 8) rfl ?_); refine box_event ?hg (N := 8) ?hd (cs := #[.int .i64 0, .int .i64 0, .int .i64 0]) (t := 65) ?hr ?_; (case hd => rfl); (case hg => rfl); (case hr => first | (go_simp; done) | (go_simp; rfl)); intro gb455 hg w9 hbox hb; have n0_ := A_ (below_step z0_ hb); have n1_ := A_ (hbox); have n2_ := A_ ((by rw [hg]; exact (below_size z0_) : w.heap.size ≤ gb455)); have n3_ := A_ ((by rw [hg]; exact (below_size z0_) : w.heap.size ≤ gb455)); clear HB; have HB := n0_; have BK455 := n1_; have GW455 := n2_; have GE455 := n3_; clear n0_ n1_ n2_ n3_; clear hb hbox hg; have hcz10_0 : w9.cell? ⟨gb455, 0, none⟩ = some (.int .i64 0) := (blk_cell BK455.out 0).trans rfl; have hcz10_1 : w9.cell? ⟨gb455, 1, none⟩ = some (.int .i64 0) := (blk_cell BK455.out 1).trans rfl; have hcz10_2 : w9.cell? ⟨gb455, 2, none⟩ = some (.int .i64 0) := (blk_cell BK455.out 2).trans rfl; have hfz10_0 := blk_frozen BK455.out 0; have hfz10_1 := blk_frozen BK455.out 1; have hfz10_2 := blk_frozen BK455.out 2)); go_roundg k1
              case measure => have := HK1.out; omega
              case rel => exact ⟨(wrap64 (x6_1 + ((rd_T65 l1 x15_1).f2))), (wrap64 (x15_1 + 1)), z11_, z11_, H', ⟨z46_⟩, ⟨by repeat (first | (with_reducible first | exact HB.out | apply below_alloc | apply pw_below_drewN | apply below_drew1 | refine below_set ?_ GE455.out) | exact HB.out)⟩⟩
            · rw [if_neg c8] at H; exact absurd H (by simp)
          · rw [if_neg c7] at H; exact absurd H (by simp)
        · rw [if_neg c6] at H; have c6b0 : decide (x15_1 < (l1.length : Int)) = false := decide_eq_false c6; clear c6; simp only [Option.some.injEq, Prod.mk.injEq] at H; obtain ⟨rfl, rfl⟩ := H; go_wp2; go_ret2; exact ⟨z10_, z0_⟩
  · replace c4 := Bool.eq_false_iff.mpr c4; subst c4; (have H1 : (some (0, 1)) = some (r1, r2) := z17_); clear H; have H := H1; clear H1; simp only [Option.some.injEq, Prod.mk.injEq] at H; obtain ⟨rfl, rfl⟩ := H; go_enter Try.func48, Try.ntmps48; go_wp2_with (first | ((with_reducible refine gate_callee (f := 61) rfl ?_); refine goesL_ (some 11) rfl rfl Try.func61 z13_ rfl #[.int .i64 a0, .slice A1 l1.length c1] rfl z2_ ?_; (with_reducible refine (impl_ValidDebts.calls k a0 _ _ l1 false _ ?side1 ?side2 A3.out).mono ?_); (case side1 => repeat (first | exact HR1.out | (with_reducible refine Kd.C_alloc ?_ _) | (with_reducible refine Kd.C_drewN ?_ _) | (with_reducible refine Kd.C_drew ?_))); (case side2 => exact HC1.out); rintro e w11 ⟨rfl, hb⟩; refine ⟨_, rfl, ?_⟩; have n0_ := A_ (below_step z0_ hb); clear HB; have HB := n0_; clear n0_; (try clear hb); (try clear hb2); (try clear hk); (try clear hi))); go_ret2; exact ⟨z10_, z0_⟩

end Go.Proofs.Ytofcgkcpkngocaa.MCircles
