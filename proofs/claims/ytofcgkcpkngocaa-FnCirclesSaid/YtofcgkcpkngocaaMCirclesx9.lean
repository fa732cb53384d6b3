-- by a program of this session, for this claim
import Derived.Test.YtofcgkcpkngocaaMCirclesx0
import Derived.Test.YtofcgkcpkngocaaMCirclesx2
import Derived.Test.YtofcgkcpkngocaaMCirclesx3
import Derived.Test.YtofcgkcpkngocaaMCirclesx7
import Derived.Test.YtofcgkcpkngocaaMCirclesx8
namespace Go.Proofs.Ytofcgkcpkngocaa.MCircles
open Go.RowKit Go.Proofs.YtofcgkcpkngocaaW.PrintWords Go.Proofs.YtofcgkcpkngocaaW.PrintLast Go.Proofs.YtofcgkcpkngocaaW.PrintMore
attribute [local go_sem] max2_int min2_int max_two min_two max_three min_three max_four min_four   -- for this text's walks alone
set_option linter.unusedVariables false
set_option linter.unusedSimpArgs false

/-! ### impl_FindCircle: function 27 -/
def impl_FindCircle.f (k : Nat) (a0 : Int) (l1 : List (S65)) : Option (List Int × Int) := (impl_JoinDebts.f k a0 l1).bind fun bt251 => (if bt251.2 = 0 then ((impl_sumsOf.f k l1).bind fun t255 => ((impl_sums_circle.f k t255).bind fun bt257 => (if (bt257.1.length : Int) = 0 then (some (([] : List Int), 6)) else (some (bt257.1, 0))))) else (some (([] : List Int), bt251.2)))
theorem impl_FindCircle.mono : ∀ a0 a1 k, LeO (impl_FindCircle.f k a0 a1) (impl_FindCircle.f (k + 1) a0 a1) := by
  intro a0 a1 k; unfold impl_FindCircle.f
  repeat' first
      | (with_reducible exact impl_JoinDebts.mono _ _ _)
      | (with_reducible exact impl_sumsOf.mono _ _)
      | (with_reducible exact impl_sums_circle.mono _ _)
      | (with_reducible exact LeO.refl _)
      | (with_reducible exact LeO.none _)
      | (with_reducible refine LeO.ite ?_ ?_)
      | (with_reducible refine LeO.bind ?_ (fun _ => ?_))
      | exact impl_JoinDebts.mono _ _ _
      | exact impl_sumsOf.mono _ _
      | exact impl_sums_circle.mono _ _
      | exact LeO.none _
      | refine LeO.ite ?_ ?_
      | refine LeO.bind ?_ (fun _ => ?_)
set_option maxHeartbeats 8000000 in
set_option maxRecDepth 100000 in
theorem impl_FindCircle.calls (k : Nat) (a0 : Int) (A1 : Option Addr) (c1 : Nat) (l1 : List (S65)) (r1 : List Int) (r2 : Int) (w : World) (hr1 : Kd.C k65 w A1 l1.length l1) (hc1 : l1.length ≤ c1) (h : impl_FindCircle.f k a0 l1 = some (r1, r2)) :
    Calls Try.prog 27 #[.int .i64 a0, .slice A1 l1.length c1] w fun e w' => ∃ v0_ : Value, e = .returned (.tuple #[v0_, .int .i64 r2]) ∧ Kd.R (Kd.int .i64) 2 w' w.heap.size (fun _ => True) v0_ r1 ∧ Below w.heap.size w w' := by
  have hu70 := Try.underlying70; have HR1 := A_ hr1; have HC1 := A_ hc1; clear hr1 hc1; have HB := A_ (Below.refl w.heap.size w); have H : ((impl_JoinDebts.f k a0 l1).bind fun bt251 => (if bt251.2 = 0 then ((impl_sumsOf.f k l1).bind fun t255 => ((impl_sums_circle.f k t255).bind fun bt257 => (if (bt257.1.length : Int) = 0 then (some (([] : List Int), 6)) else (some (bt257.1, 0))))) else (some (([] : List Int), bt251.2)))) = some (r1, r2) := h; clear h; replace H := Option.bind_eq_some_iff.mp H; obtain ⟨⟨t251, t252⟩, A30, H⟩ := H; replace H : (if t252 = 0 then ((impl_sumsOf.f k l1).bind fun t255 => ((impl_sums_circle.f k t255).bind fun bt257 => (if (bt257.1.length : Int) = 0 then (some (([] : List Int), 6)) else (some (bt257.1, 0))))) else (some (([] : List Int), t252))) = some (r1, r2) := H; have A3 := A_ A30; clear A30; by_cases c4 : t252 = 0
  · rw [if_pos c4] at H; have c4b0 : (t252 == 0) = true := beq_iff_eq.mpr c4; have c4b1 : (t252 != 0) = false := bne_eq_false_iff_eq.mpr c4; clear c4; replace H := Option.bind_eq_some_iff.mp H; obtain ⟨t255, A50, H⟩ := H; replace H : ((impl_sums_circle.f k t255).bind fun bt257 => (if (bt257.1.length : Int) = 0 then (some (([] : List Int), 6)) else (some (bt257.1, 0)))) = some (r1, r2) := H; have A5 := A_ A50; clear A50; replace H := Option.bind_eq_some_iff.mp H; obtain ⟨⟨t257, t260⟩, A70, H⟩ := H; replace H : (if (t257.length : Int) = 0 then (some (([] : List Int), 6)) else (some (t257, 0))) = some (r1, r2) := H; have A7 := A_ A70; clear A70; by_cases c8 : (t257.length : Int) = 0
    · rw [if_pos c8] at H; have c8b0 : ((t257.length : Int) == 0) = true := beq_iff_eq.mpr c8; have c8b1 : ((t257.length : Int) != 0) = false := bne_eq_false_iff_eq.mpr c8; clear c8; simp only [Option.some.injEq, Prod.mk.injEq] at H; obtain ⟨rfl, rfl⟩ := H; go_enter Try.func27, Try.ntmps27; go_wp2_with (first | ((with_reducible refine gate_callee (f := 21) rfl ?_); refine goesL_ (some 13) rfl rfl Try.func21 z13_ rfl #[.int .i64 a0, .slice A1 l1.length c1] rfl z2_ ?_; (with_reducible refine (impl_JoinDebts.calls k a0 _ _ l1 t251 t252 _ ?side1 ?side2 A3.out).mono ?_); (case side1 => repeat (first | exact HR1.out | (with_reducible refine Kd.C_alloc ?_ _) | (with_reducible refine Kd.C_drewN ?_ _) | (with_reducible refine Kd.C_drew ?_))); (case side2 => exact HC1.out); rintro e w9 ⟨v253, rfl, ho0, hb⟩; refine ⟨_, rfl, ?_⟩; have n0_ := A_ (Kd.R_lower ho0 (below_size z0_)); have n1_ := A_ (below_step z0_ hb); clear HB; have HO254 := n0_; have HB := n1_; clear n0_ n1_; (try clear hb); (try clear hb2); (try clear hk); (try clear hi); (try clear ho0)) | ((with_reducible refine gate_callee (f := 57) rfl ?_); refine goesL_ (some 20) rfl rfl Try.func57 z13_ rfl #[.slice A1 l1.length c1] rfl z2_ ?_; (with_reducible refine (impl_sumsOf.calls k _ _ l1 t255 _ ?side1 ?side2 A5.out).mono ?_); (case side1 => repeat (first | exact (Kd.C_below HR1.out HB.out) | (with_reducible refine Kd.C_alloc ?_ _) | (with_reducible refine Kd.C_drewN ?_ _) | (with_reducible refine Kd.C_drew ?_))); (case side2 => exact HC1.out); rintro e w10 ⟨rfl, hb⟩; refine ⟨_, rfl, ?_⟩; have n0_ := A_ (Kd.R_below z48_ hb); have n1_ := A_ (below_step z0_ hb); clear HO254; clear HB; have HO254 := n0_; have HB := n1_; clear n0_ n1_; (try clear hb); (try clear hb2); (try clear hk); (try clear hi)) | ((with_reducible refine gate_dst (N := 8) rfl ?_); refine box_event ?hg (N := 8) ?hd (cs := (⟨Arr.arL .i64 (Vector.replicate 256 0 : Vector Int 256)⟩ : Array Value)) (t := 70) ?hr ?_; (case hd => rfl); (case hg => rfl); (case hr => first | (go_simp; done) | (go_simp; rfl)); intro gb256 hg w11 hbox hb; have n0_ := A_ (Kd.R_below z48_ hb); have n1_ := A_ (below_step z0_ hb); have n2_ := A_ (hbox); have n3_ := A_ ((by rw [hg]; exact (below_size z0_) : w.heap.size ≤ gb256)); have n4_ := A_ ((by rw [hg]; exact (below_size z0_) : w.heap.size ≤ gb256)); clear HO254; clear HB; have HO254 := n0_; have HB := n1_; have BK256 := n2_; have GW256 := n3_; have GE256 := n4_; clear n0_ n1_ n2_ n3_ n4_; clear hb hbox hg) | ((with_reducible refine gate_store (t := 70) (p := 8) rfl ?_); refine Arr.storeA ?hg (T := 70) (p := 8) (v := ?vo_w12) ?ho ?hn (g := gb256) (off := 0) ?hx (m := (Arr.arL .i64 t255)) ?hy (t := 70) (pre := []) (old := (Arr.arL .i64 (Vector.replicate 256 0 : Vector Int 256))) (show w11.heap[gb256]? = some (.cells (⟨Arr.arL .i64 (Vector.replicate 256 0 : Vector Int 256)⟩ : Array Value) 70 (0, 0)) from by (with_reducible repeat (first | refine blk_drewN ?_ _ | refine blk_drew ?_ | refine blk_alloc ?_ _)); exact BK256.out) rfl z56_ (n := 256) z13_ z56_ (Arr.ones_0 ) ?_; (case ho => rfl); (case hg => rfl); (case hn => rfl); (case hx => first | (go_simp; done) | rfl | (go_simp; rfl)); (case hy => first | (go_simp; done) | rfl | (go_simp; rfl)); intro w12 hbx hg hbe; replace hbx : w12.heap[gb256]? = some (.cells (⟨Arr.arL .i64 t255⟩ : Array Value) 70 (0, 0)) := hbx; have n0_ := A_ (Kd.R_grown1 z48_ rfl hg (Kd.R_ne HO254.out BK256.out (by decide))); have n1_ := A_ (hbx); have n2_ := A_ (hbe _ _ (by repeat (first | (with_reducible first | exact HB.out | apply below_alloc | apply pw_below_drewN | apply below_drew1 | refine below_set ?_ GE256.out) | exact HB.out)) GE256.out); clear HO254; clear BK256; clear HB; have HO254 := n0_; have BK256 := n1_; have HB := n2_; clear n0_ n1_ n2_; (try clear hbx hg hbe); have HI256 := A_ (show IsS70 w w12 gb256 t255 from ⟨BK256.out, GW256.out⟩); clear BK256) | ((with_reducible refine gate_callee (f := 65) rfl ?_); refine goesL_ (some 21) rfl rfl Try.func65 z13_ rfl #[.pointer (some ⟨gb256, 0, none⟩)] rfl z2_ ?_; (with_reducible refine (impl_sums_circle.calls k gb256 t255 t257 t260 w _ ?side1 ?side2 A7.out).mono ?_); (case side1 => repeat (first | (with_reducible first | exact HI256.out | apply IsS70.alloc | apply IsS70.drewN | apply IsS70.drew | apply IsS70.set_0) | exact HI256.out)); (case side2 => repeat (first | (with_reducible first | exact HB.out | apply below_alloc | apply pw_below_drewN | apply below_drew1 | refine below_set ?_ (IsS70.ge HI256.out)) | exact HB.out)); rintro e w13 ⟨v258, rfl, ho0, hi, hb, hk, hnil⟩; refine ⟨_, rfl, ?_⟩; have n0_ := A_ (hnil); have n1_ := A_ (Kd.R_mono (Kd.R_keep (IsS70.apart (show IsS70 w _ gb256 t255 from by repeat (first | (with_reducible first | exact HI256.out | apply IsS70.alloc | apply IsS70.drewN | apply IsS70.drew | apply IsS70.set_0) | exact HI256.out)) z48_ (by decide)) hk (fun _ h => h.2)) (fun _ h => h.1)); have n2_ := A_ (Kd.R_lower ho0 (below_size z63_)); have n3_ := A_ (hb); have n4_ := A_ (hi); clear HO254; clear HB; clear HI256; have HNILHO259 := n0_; have HO254 := n1_; have HO259 := n2_; have HB := n3_; have HI256 := n4_; clear n0_ n1_ n2_ n3_ n4_; (try clear hb); (try clear hb2); (try clear hk); (try clear hi); (try clear ho0); obtain ⟨Ao14, co14, eo14⟩ := Kd.R_slice HO259.out; subst eo14; have hnq15 := Arr.nil_eql (P := Try.prog) Try.underlying34 HNILHO259.out (Kd.R_reads' HO259.out).2.2)); go_ret2; exact ⟨_, z10_, z23_, z63_⟩
    · rw [if_neg c8] at H; have c8b0 : ((t257.length : Int) == 0) = false := beq_eq_false_iff_ne.mpr c8; have c8b1 : ((t257.length : Int) != 0) = true := bne_iff_ne.mpr c8; (have c8b2 : ¬ (t257 = []) := fun h_ => c8 (by rw [h_]; rfl)); simp only [Option.some.injEq, Prod.mk.injEq] at H; obtain ⟨rfl, rfl⟩ := H; go_enter Try.func27, Try.ntmps27; go_wp2_with (first | ((with_reducible refine gate_callee (f := 21) rfl ?_); refine goesL_ (some 13) rfl rfl Try.func21 z13_ rfl #[.int .i64 a0, .slice A1 l1.length c1] rfl z2_ ?_; (with_reducible refine (impl_JoinDebts.calls k a0 _ _ l1 t251 t252 _ ?side1 ?side2 A3.out).mono ?_); (case side1 => repeat (first | exact HR1.out | (with_reducible refine Kd.C_alloc ?_ _) | (with_reducible refine Kd.C_drewN ?_ _) | (with_reducible refine Kd.C_drew ?_))); (case side2 => exact HC1.out); rintro e w16 ⟨v253, rfl, ho0, hb⟩; refine ⟨_, rfl, ?_⟩; have n0_ := A_ (Kd.R_lower ho0 (below_size z0_)); have n1_ := A_ (below_step z0_ hb); clear HB; have HO254 := n0_; have HB := n1_; clear n0_ n1_; (try clear hb); (try clear hb2); (try clear hk); (try clear hi); (try clear ho0)) | ((with_reducible refine gate_callee (f := 57) rfl ?_); refine goesL_ (some 20) rfl rfl Try.func57 z13_ rfl #[.slice A1 l1.length c1] rfl z2_ ?_; (with_reducible refine (impl_sumsOf.calls k _ _ l1 t255 _ ?side1 ?side2 A5.out).mono ?_); (case side1 => repeat (first | exact (Kd.C_below HR1.out HB.out) | (with_reducible refine Kd.C_alloc ?_ _) | (with_reducible refine Kd.C_drewN ?_ _) | (with_reducible refine Kd.C_drew ?_))); (case side2 => exact HC1.out); rintro e w17 ⟨rfl, hb⟩; refine ⟨_, rfl, ?_⟩; have n0_ := A_ (Kd.R_below z48_ hb); have n1_ := A_ (below_step z0_ hb); clear HO254; clear HB; have HO254 := n0_; have HB := n1_; clear n0_ n1_; (try clear hb); (try clear hb2); (try clear hk); (try clear hi)) | ((with_reducible refine gate_dst (N := 8) rfl ?_); refine box_event ?hg (N := 8) ?hd (cs := (⟨Arr.arL .i64 (Vector.replicate 256 0 : Vector Int 256)⟩ : Array Value)) (t := 70) ?hr ?_; (case hd => rfl); (case hg => rfl); (case hr => first | (go_simp; done) | (go_simp; rfl)); intro gb256 hg w18 hbox hb; have n0_ := A_ (Kd.R_below z48_ hb); have n1_ := A_ (below_step z0_ hb); have n2_ := A_ (hbox); have n3_ := A_ ((by rw [hg]; exact (below_size z0_) : w.heap.size ≤ gb256)); have n4_ := A_ ((by rw [hg]; exact (below_size z0_) : w.heap.size ≤ gb256)); clear HO254; clear HB; have HO254 := n0_; have HB := n1_; have BK256 := n2_; have GW256 := n3_; have GE256 := n4_; clear n0_ n1_ n2_ n3_ n4_; clear hb hbox hg) | ((with_reducible refine gate_store (t := 70) (p := 8) rfl ?_); refine Arr.storeA ?hg (T := 70) (p := 8) (v := ?vo_w19) ?ho ?hn (g := gb256) (off := 0) ?hx (m := (Arr.arL .i64 t255)) ?hy (t := 70) (pre := []) (old := (Arr.arL .i64 (Vector.replicate 256 0 : Vector Int 256))) (show w18.heap[gb256]? = some (.cells (⟨Arr.arL .i64 (Vector.replicate 256 0 : Vector Int 256)⟩ : Array Value) 70 (0, 0)) from by (with_reducible repeat (first | refine blk_drewN ?_ _ | refine blk_drew ?_ | refine blk_alloc ?_ _)); exact BK256.out) rfl z56_ (n := 256) z13_ z56_ (Arr.ones_0 ) ?_; (case ho => rfl); (case hg => rfl); (case hn => rfl); (case hx => first | (go_simp; done) | rfl | (go_simp; rfl)); (case hy => first | (go_simp; done) | rfl | (go_simp; rfl)); intro w19 hbx hg hbe; replace hbx : w19.heap[gb256]? = some (.cells (⟨Arr.arL .i64 t255⟩ : Array Value) 70 (0, 0)) := hbx; have n0_ := A_ (Kd.R_grown1 z48_ rfl hg (Kd.R_ne HO254.out BK256.out (by decide))); have n1_ := A_ (hbx); have n2_ := A_ (hbe _ _ (by repeat (first | (with_reducible first | exact HB.out | apply below_alloc | apply pw_below_drewN | apply below_drew1 | refine below_set ?_ GE256.out) | exact HB.out)) GE256.out); clear HO254; clear BK256; clear HB; have HO254 := n0_; have BK256 := n1_; have HB := n2_; clear n0_ n1_ n2_; (try clear hbx hg hbe); have HI256 := A_ (show IsS70 w w19 gb256 t255 from ⟨BK256.out, GW256.out⟩); clear BK256) | ((with_reducible refine gate_callee (f := 65) rfl ?_); refine goesL_ (some 21) rfl rfl Try.func65 z13_ rfl #[.pointer (some ⟨gb256, 0, none⟩)] rfl z2_ ?_; (with_reducible refine (impl_sums_circle.calls k gb256 t255 t257 t260 w _ ?side1 ?side2 A7.out).mono ?_); (case side1 => repeat (first | (with_reducible first | exact HI256.out | apply IsS70.alloc | apply IsS70.drewN | apply IsS70.drew | apply IsS70.set_0) | exact HI256.out)); (case side2 => repeat (first | (with_reducible first | exact HB.out | apply below_alloc | apply pw_below_drewN | apply below_drew1 | refine below_set ?_ (IsS70.ge HI256.out)) | exact HB.out)); rintro e w20 ⟨v258, rfl, ho0, hi, hb, hk, hnil⟩; refine ⟨_, rfl, ?_⟩; have n0_ := A_ (hnil); have n1_ := A_ (Kd.R_mono (Kd.R_keep (IsS70.apart (show IsS70 w _ gb256 t255 from by repeat (first | (with_reducible first | exact HI256.out | apply IsS70.alloc | apply IsS70.drewN | apply IsS70.drew | apply IsS70.set_0) | exact HI256.out)) z48_ (by decide)) hk (fun _ h => h.2)) (fun _ h => h.1)); have n2_ := A_ (Kd.R_lower ho0 (below_size z63_)); have n3_ := A_ (hb); have n4_ := A_ (hi); clear HO254; clear HB; clear HI256; have HNILHO259 := n0_; have HO254 := n1_; have HO259 := n2_; have HB := n3_; have HI256 := n4_; clear n0_ n1_ n2_ n3_ n4_; (try clear hb); (try clear hb2); (try clear hk); (try clear hi); (try clear ho0); obtain ⟨Ao21, co21, eo21⟩ := Kd.R_slice HO259.out; subst eo21; have hnq22 := Arr.nil_eql (P := Try.prog) Try.underlying34 HNILHO259.out (Kd.R_reads' HO259.out).2.2)); go_ret2; exact ⟨_, z10_, by (with_reducible repeat (first | apply Kd.R_alloc | apply Kd.R_drewN | apply Kd.R_drew)); exact HO259.out, z63_⟩
  · rw [if_neg c4] at H; have c4b0 : (t252 == 0) = false := beq_eq_false_iff_ne.mpr c4; have c4b1 : (t252 != 0) = true := bne_iff_ne.mpr c4; simp only [Option.some.injEq, Prod.mk.injEq] at H; obtain ⟨rfl, rfl⟩ := H; go_enter Try.func27, Try.ntmps27; go_wp2_with (first | ((with_reducible refine gate_callee (f := 21) rfl ?_); refine goesL_ (some 13) rfl rfl Try.func21 z13_ rfl #[.int .i64 a0, .slice A1 l1.length c1] rfl z2_ ?_; (with_reducible refine (impl_JoinDebts.calls k a0 _ _ l1 t251 t252 _ ?side1 ?side2 A3.out).mono ?_); (case side1 => repeat (first | exact HR1.out | (with_reducible refine Kd.C_alloc ?_ _) | (with_reducible refine Kd.C_drewN ?_ _) | (with_reducible refine Kd.C_drew ?_))); (case side2 => exact HC1.out); rintro e w23 ⟨v253, rfl, ho0, hb⟩; refine ⟨_, rfl, ?_⟩; have n0_ := A_ (Kd.R_lower ho0 (below_size z0_)); have n1_ := A_ (below_step z0_ hb); clear HB; have HO254 := n0_; have HB := n1_; clear n0_ n1_; (try clear hb); (try clear hb2); (try clear hk); (try clear hi); (try clear ho0))); go_ret2; exact ⟨_, z10_, z23_, z0_⟩

/-! ### spec_l02Round: function 67 -/
mutual
def spec_l02Round.l0 : Nat → List Int → Int → Option (Bool)
  | 0, _, _ => none
  | k + 1, x0, x3 => if x3 < (x0.length : Int) then (spec_l02Round.l1 k x0 x3 0) else (some (decide ((x0.length : Int) ≥ 2)))
def spec_l02Round.l1 : Nat → List Int → Int → Int → Option (Bool)
  | 0, _, _, _ => none
  | k + 1, x0, x3, x4 => if x4 < x3 then (if 0 ≤ x4 then (if x4 < (x0.length : Int) then (if 0 ≤ x3 then (if x3 < (x0.length : Int) then (if (rd x0 x4) = (rd x0 x3) then (some false) else (spec_l02Round.l1 k x0 x3 (wrap64 (x4 + 1)))) else (none)) else (none)) else (none)) else (none)) else (spec_l02Round.l0 k x0 (wrap64 (x3 + 1)))
end
def spec_l02Round.f (k : Nat) (l0 : List Int) : Option (Bool) := spec_l02Round.l0 k l0 0
theorem spec_l02Round.mono_l : ∀ k, (∀ y0 y1, LeO (spec_l02Round.l0 k y0 y1) (spec_l02Round.l0 (k + 1) y0 y1)) ∧ (∀ y0 y1 y2, LeO (spec_l02Round.l1 k y0 y1 y2) (spec_l02Round.l1 (k + 1) y0 y1 y2))
  | 0 => ⟨fun _ _ r h => by simp [spec_l02Round.l0] at h, fun _ _ _ r h => by simp [spec_l02Round.l1] at h⟩
  | k + 1 => by
    obtain ⟨ih0, ih1⟩ := spec_l02Round.mono_l k
    refine ⟨?_, ?_⟩
    · intro y0 y1
      unfold spec_l02Round.l0
      repeat' first
      | (with_reducible exact ih0 _ _)
      | (with_reducible exact ih1 _ _ _)
      | (with_reducible exact LeO.refl _)
      | (with_reducible exact LeO.none _)
      | (with_reducible refine LeO.ite ?_ ?_)
      | (with_reducible refine LeO.bind ?_ (fun _ => ?_))
      | exact ih0 _ _
      | exact ih1 _ _ _
      | exact LeO.none _
      | refine LeO.ite ?_ ?_
      | refine LeO.bind ?_ (fun _ => ?_)
    · intro y0 y1 y2
      unfold spec_l02Round.l1
      repeat' first
      | (with_reducible exact ih0 _ _)
      | (with_reducible exact ih1 _ _ _)
      | (with_reducible exact LeO.refl _)
      | (with_reducible exact LeO.none _)
      | (with_reducible refine LeO.ite ?_ ?_)
      | (with_reducible refine LeO.bind ?_ (fun _ => ?_))
      | exact ih0 _ _
      | exact ih1 _ _ _
      | exact LeO.none _
      | refine LeO.ite ?_ ?_
      | refine LeO.bind ?_ (fun _ => ?_)
theorem spec_l02Round.mono : ∀ a0 k, LeO (spec_l02Round.f k a0) (spec_l02Round.f (k + 1) a0) := by
  intro a0 k; obtain ⟨ih0, ih1⟩ := spec_l02Round.mono_l k; unfold spec_l02Round.f
  repeat' first
      | (with_reducible exact ih0 _ _)
      | (with_reducible exact ih1 _ _ _)
      | (with_reducible exact LeO.refl _)
      | (with_reducible exact LeO.none _)
      | (with_reducible refine LeO.ite ?_ ?_)
      | (with_reducible refine LeO.bind ?_ (fun _ => ?_))
      | exact ih0 _ _
      | exact ih1 _ _ _
      | exact LeO.none _
      | refine LeO.ite ?_ ?_
      | refine LeO.bind ?_ (fun _ => ?_)
set_option maxHeartbeats 8000000 in
set_option maxRecDepth 100000 in
theorem spec_l02Round.calls (k : Nat) (A0 : Option Addr) (c0 : Nat) (l0 : List Int) (r : Bool) (w : World) (hr0 : Kd.C (Kd.int .i64) w A0 l0.length l0) (hc0 : l0.length ≤ c0) (h : spec_l02Round.f k l0 = some r) :
    Calls Try.prog 67 #[.slice A0 l0.length c0] w fun e w' => e = .returned (.bool r) ∧ Drawn0 w w' := by
  have HR0 := A_ hr0; have HC0 := A_ hc0; clear hr0 hc0; have H : (spec_l02Round.l0 k l0 0) = some r := h; clear h; have H' := A_ H; clear H; go_enter Try.func67, Try.ntmps67; go_wp2; (repeat (go_quiet (fail); try go_wp2)); go_loopg [3] k (fun kq v3 w' => ∃ (x3_1 : Int), v3 = .int .i64 x3_1 ∧ Aside0 (spec_l02Round.l0 kq l0 x3_1 = some r) ∧ Aside0 (kq ≤ k) ∧ Drawn0 w w')
  case atStart => exact ⟨(0), z11_, H', ⟨Nat.le_refl _⟩, z21_⟩
  case round =>
    clear H'; obtain ⟨x3_1, rfl, HA, HK1, ⟨m1, rfl⟩⟩ := hrel
    cases gk with
    | zero => exact absurd HA.out (by simp [spec_l02Round.l0])
    | succ k1 =>
      have H := HA.out; clear HA; simp only [spec_l02Round.l0] at H; by_cases c2 : x3_1 < (l0.length : Int)
      · rw [if_pos c2] at H; have c2b0 : decide (x3_1 < (l0.length : Int)) = true := decide_eq_true c2; clear c2; have H' := A_ H; clear H; go_wp2; (repeat (go_quiet (fail); try go_wp2)); go_loopg [4] k1 (fun kq v4 w' => ∃ (x4_2 : Int), v4 = .int .i64 x4_2 ∧ Aside0 (spec_l02Round.l1 kq l0 x3_1 x4_2 = some r) ∧ Aside0 (kq ≤ k1) ∧ Drawn0 w w')
        case atStart => exact ⟨(0), z11_, H', ⟨Nat.le_refl _⟩, z21_⟩
        case round =>
          clear H'; (try clear c2); (try clear c2b0); (try clear p2); obtain ⟨x4_2, rfl, HA, HK2, ⟨m2, rfl⟩⟩ := hrel
          cases gk with
          | zero => exact absurd HA.out (by simp [spec_l02Round.l1])
          | succ k2 =>
            have H := HA.out; clear HA; simp only [spec_l02Round.l1] at H; by_cases c3 : x4_2 < x3_1
            · rw [if_pos c3] at H; have c3b0 : decide (x4_2 < x3_1) = true := decide_eq_true c3; clear c3; by_cases c4 : 0 ≤ x4_2
              · rw [if_pos c4] at H; have c4b0 : decide (0 ≤ x4_2) = true := decide_eq_true c4; clear c4; by_cases c5 : x4_2 < (l0.length : Int)
                · rw [if_pos c5] at H; have c5b0 : decide (x4_2 < (l0.length : Int)) = true := decide_eq_true c5; clear c5; by_cases c6 : 0 ≤ x3_1
                  · rw [if_pos c6] at H; have c6b0 : decide (0 ≤ x3_1) = true := decide_eq_true c6; clear c6; by_cases c7 : x3_1 < (l0.length : Int)
                    · rw [if_pos c7] at H; have c7b0 : decide (x3_1 < (l0.length : Int)) = true := decide_eq_true c7; clear c7; by_cases c8 : (rd l0 x4_2) = (rd l0 x3_1)
                      · rw [if_pos c8] at H; have c8b0 : ((rd l0 x4_2) == (rd l0 x3_1)) = true := beq_iff_eq.mpr c8; have c8b1 : ((rd l0 x4_2) != (rd l0 x3_1)) = false := bne_eq_false_iff_eq.mpr c8; clear c8; obtain rfl := Option.some.inj H; have p261 : 0 ≤ (x4_2 : Int) := of_decide_eq_true z3_; have q261 : x4_2 < (l0.length : Int) := of_decide_eq_true z3_; obtain ⟨ad261, e261, hx261_0⟩ := Kd.at_int HR0.out x4_2 p261 q261; cases e261; replace p261 := eq_true p261; replace q261 := eq_true q261; have p262 : 0 ≤ (x3_1 : Int) := of_decide_eq_true z3_; have q262 : x3_1 < (l0.length : Int) := of_decide_eq_true z3_; obtain ⟨ad262, e262, hx262_0⟩ := Kd.at_int HR0.out x3_1 p262 q262; obtain rfl : ad261 = ad262 := (by injection e262); replace p262 := eq_true p262; replace q262 := eq_true q262; go_wp2; (repeat (go_quiet (fail); try go_wp2)); go_ret; exact ⟨z11_, z21_⟩
                      · rw [if_neg c8] at H; have c8b0 : ((rd l0 x4_2) == (rd l0 x3_1)) = false := beq_eq_false_iff_ne.mpr c8; have c8b1 : ((rd l0 x4_2) != (rd l0 x3_1)) = true := bne_iff_ne.mpr c8; have H' := A_ H; clear H; have p261 : 0 ≤ (x4_2 : Int) := of_decide_eq_true z3_; have q261 : x4_2 < (l0.length : Int) := of_decide_eq_true z3_; obtain ⟨ad261, e261, hx261_0⟩ := Kd.at_int HR0.out x4_2 p261 q261; cases e261; replace p261 := eq_true p261; replace q261 := eq_true q261; have p262 : 0 ≤ (x3_1 : Int) := of_decide_eq_true z3_; have q262 : x3_1 < (l0.length : Int) := of_decide_eq_true z3_; obtain ⟨ad262, e262, hx262_0⟩ := Kd.at_int HR0.out x3_1 p262 q262; obtain rfl : ad261 = ad262 := (by injection e262); replace p262 := eq_true p262; replace q262 := eq_true q262; go_wp2; (repeat (go_quiet (fail); try go_wp2)); go_roundg k2
                        case measure => have := HK1.out; have := HK2.out; omega
                        case rel => exact ⟨(wrap64 (x4_2 + 1)), z11_, H', ⟨z93_⟩, z21_⟩
                    · rw [if_neg c7] at H; exact absurd H (by simp)
                  · rw [if_neg c6] at H; exact absurd H (by simp)
                · rw [if_neg c5] at H; exact absurd H (by simp)
              · rw [if_neg c4] at H; exact absurd H (by simp)
            · rw [if_neg c3] at H; have c3b0 : decide (x4_2 < x3_1) = false := decide_eq_false c3; clear c3; have H' := A_ H; clear H; go_wp2; (repeat (go_quiet (fail); try go_wp2)); go_roundg k2
              case measure => have := HK1.out; have := HK2.out; omega
              case rel => exact ⟨(wrap64 (x3_1 + 1)), z11_, H', ⟨z93_⟩, z21_⟩
      · rw [if_neg c2] at H; have c2b0 : decide (x3_1 < (l0.length : Int)) = false := decide_eq_false c2; clear c2; obtain rfl := Option.some.inj H; go_wp2; (repeat (go_quiet (fail); try go_wp2)); go_ret; exact ⟨z11_, z21_⟩

/-! ### spec_l00Min: function 63 -/
def spec_l00Min.f (a0 : Int) (a1 : Int) : Option (Int) := if a0 < a1 then (some a0) else (some a1)
set_option maxHeartbeats 8000000 in
set_option maxRecDepth 100000 in
theorem spec_l00Min.calls (a0 : Int) (a1 : Int) (r : Int) (w : World) (h : spec_l00Min.f a0 a1 = some r) :
    Calls Try.prog 63 #[.int .i64 a0, .int .i64 a1] w fun e w' => e = .returned (.int .i64 r) ∧ Below w.heap.size w w' := by
  have HB := A_ (Below.refl w.heap.size w); have H : (if a0 < a1 then (some a0) else (some a1)) = some r := h; clear h; by_cases c3 : a0 < a1
  · rw [if_pos c3] at H; have c3b0 : decide (a0 < a1) = true := decide_eq_true c3; clear c3; obtain rfl := Option.some.inj H; go_enter Try.func63, Try.ntmps63; go_wp2; go_ret; exact ⟨z10_, z0_⟩
  · rw [if_neg c3] at H; have c3b0 : decide (a0 < a1) = false := decide_eq_false c3; clear c3; obtain rfl := Option.some.inj H; go_enter Try.func63, Try.ntmps63; go_wp2; go_ret; exact ⟨z10_, z0_⟩

/-! ### spec_l02Least: function 68 -/
def spec_l02Least.l0 : Nat → List Int → Int → Int → Int → Vector Int 256 → Option (Int × Vector Int 256)
  | 0, _, _, _, _, _ => none
  | k + 1, x1, x5, x6, x7, x1000 => if (wrap64 (x7 + 1)) < x5 then (if 0 ≤ x7 then (if x7 < (x1.length : Int) then (if 0 ≤ (wrap64 (x7 + 1)) then (if (wrap64 (x7 + 1)) < (x1.length : Int) then (if 0 ≤ (rd x1 x7) then (if (rd x1 x7) < 16 then (if 0 ≤ (rd x1 (wrap64 (x7 + 1))) then (if (rd x1 (wrap64 (x7 + 1))) < 16 then ((spec_l00Min.f x6 (Arr.vrd2 16 x1000 (rd x1 x7) (rd x1 (wrap64 (x7 + 1))))).bind fun t267 => (spec_l02Least.l0 k x1 x5 t267 (wrap64 (x7 + 1)) x1000)) else (none)) else (none)) else (none)) else (none)) else (none)) else (none)) else (none)) else (none)) else (some (x6, x1000))
def spec_l02Least.f (k : Nat) (s0_0 : Vector Int 256) (l1 : List Int) : Option (Int × Vector Int 256) := if 0 ≤ (wrap64 ((l1.length : Int) - 1)) then (if (wrap64 ((l1.length : Int) - 1)) < (l1.length : Int) then (if 0 < (l1.length : Int) then (if 0 ≤ (rd l1 (wrap64 ((l1.length : Int) - 1))) then (if (rd l1 (wrap64 ((l1.length : Int) - 1))) < 16 then (if 0 ≤ (rd l1 0) then (if (rd l1 0) < 16 then (spec_l02Least.l0 k l1 (l1.length : Int) (Arr.vrd2 16 s0_0 (rd l1 (wrap64 ((l1.length : Int) - 1))) (rd l1 0)) 0 s0_0) else (none)) else (none)) else (none)) else (none)) else (none)) else (none)) else (none)
theorem spec_l02Least.mono_l : ∀ k, (∀ y0 y1 y2 y3 y4, LeO (spec_l02Least.l0 k y0 y1 y2 y3 y4) (spec_l02Least.l0 (k + 1) y0 y1 y2 y3 y4))
  | 0 => fun _ _ _ _ _ r h => by simp [spec_l02Least.l0] at h
  | k + 1 => by
    have ih0 := spec_l02Least.mono_l k
    · intro y0 y1 y2 y3 y4
      unfold spec_l02Least.l0
      repeat' first
      | (with_reducible exact ih0 _ _ _ _ _)
      | (with_reducible exact LeO.refl _)
      | (with_reducible exact LeO.none _)
      | (with_reducible refine LeO.ite ?_ ?_)
      | (with_reducible refine LeO.bind ?_ (fun _ => ?_))
      | exact ih0 _ _ _ _ _
      | exact LeO.none _
      | refine LeO.ite ?_ ?_
      | refine LeO.bind ?_ (fun _ => ?_)
theorem spec_l02Least.mono : ∀ a0 a1 k, LeO (spec_l02Least.f k a0 a1) (spec_l02Least.f (k + 1) a0 a1) := by
  intro a0 a1 k; have ih0 := spec_l02Least.mono_l k; unfold spec_l02Least.f
  repeat' first
      | (with_reducible exact ih0 _ _ _ _ _)
      | (with_reducible exact LeO.refl _)
      | (with_reducible exact LeO.none _)
      | (with_reducible refine LeO.ite ?_ ?_)
      | (with_reducible refine LeO.bind ?_ (fun _ => ?_))
      | exact ih0 _ _ _ _ _
      | exact LeO.none _
      | refine LeO.ite ?_ ?_
      | refine LeO.bind ?_ (fun _ => ?_)
def spec_l02Least.T2 : Bool × List (List Nat × List Nat) := (true, [([], []), ([], []), ([], []), ([2], [2]), ([1, 3], [1, 3]), ([4], [4]), ([], []), ([6], [6]), ([7], [7]), ([0], [0]), ([9, 5], [5, 9]), ([10, 8], [8, 10]), ([11], [11]), ([12, 0, 1, 2, 3, 4, 5, 6, 7, 8, 9, 10, 11, 12], [12])])
def spec_l02Least.B2 : List Nat := [0, 0, 0, 4, 14, 30, 0, 64, 192, 1, 575, 2047, 4095, 8191]
theorem spec_l02Least.tab2 : rtab .any (opsOf Try.f68 2) = spec_l02Least.T2 := by kernel_rfl
theorem spec_l02Least.bits2 : waitsOk spec_l02Least.T2.2 spec_l02Least.B2 = true := by kernel_rfl
def spec_l02Least.T6 : Bool × List (List Nat × List Nat) := (true, [([], []), ([], []), ([], []), ([], []), ([2, 3], [2, 3]), ([4], [4]), ([], []), ([], []), ([7], [7]), ([6, 8], [6, 8]), ([9], [9]), ([1], [1]), ([11, 5], [5, 11]), ([12, 10], [10, 12]), ([13], [13]), ([0, 14], [0, 14]), ([15, 15, 0, 1, 2, 3, 4, 5, 6, 7, 8, 9, 10, 11, 12, 13, 14, 15], [0, 15])])
def spec_l02Least.B6 : List Nat := [0, 0, 0, 0, 12, 28, 0, 0, 128, 448, 960, 2, 2110, 8190, 16382, 32767, 65535]
theorem spec_l02Least.tab6 : rtab .any (opsOf Try.f68 6) = spec_l02Least.T6 := by kernel_rfl
theorem spec_l02Least.bits6 : waitsOk spec_l02Least.T6.2 spec_l02Least.B6 = true := by kernel_rfl
set_option maxHeartbeats 8000000 in
set_option maxRecDepth 100000 in
theorem spec_l02Least.calls (k : Nat) (g : Nat) (s0_0 : Vector Int 256) (A1 : Option Addr) (c1 : Nat) (l1 : List Int) (r1 : Int) (r2 : Vector Int 256) (w0 w : World) (hI : IsS92 w0 w g s0_0) (hB : Below w0.heap.size w0 w) (hr1 : Kd.C (Kd.int .i64) w A1 l1.length l1) (hc1 : l1.length ≤ c1) (hf1 : ∀ ad, A1 = some ad → 0 < l1.length → ad.block ≠ g) (h : spec_l02Least.f k s0_0 l1 = some (r1, r2)) :
    Calls Try.prog 68 #[.pointer (some ⟨g, 0, none⟩), .slice A1 l1.length c1] w fun e w' => e = .returned (.int .i64 r1) ∧ IsS92 w0 w' g r2 ∧ Below w0.heap.size w0 w' ∧ KeepBut w w' g none := by
  have HR1 := A_ hr1; have HC1 := A_ hc1; clear hr1 hc1; have HI0 := A_ hI; have HK := A_ (KeepBut.refl w g none); have HL := A_ hB.size; clear hI; have HW0 := A_ hB.size; have HB := A_ hB; clear hB; have H : (if 0 ≤ (wrap64 ((l1.length : Int) - 1)) then (if (wrap64 ((l1.length : Int) - 1)) < (l1.length : Int) then (if 0 < (l1.length : Int) then (if 0 ≤ (rd l1 (wrap64 ((l1.length : Int) - 1))) then (if (rd l1 (wrap64 ((l1.length : Int) - 1))) < 16 then (if 0 ≤ (rd l1 0) then (if (rd l1 0) < 16 then (spec_l02Least.l0 k l1 (l1.length : Int) (Arr.vrd2 16 s0_0 (rd l1 (wrap64 ((l1.length : Int) - 1))) (rd l1 0)) 0 s0_0) else (none)) else (none)) else (none)) else (none)) else (none)) else (none)) else (none)) = some (r1, r2) := h; clear h; obtain ⟨ji3, hji3⟩ : ∃ j_ : Int, (wrap64 ((l1.length : Int) - 1)) = j_ := ⟨_, rfl⟩; (replace H : (if 0 ≤ (ji3) then (if (ji3) < (l1.length : Int) then (if 0 < (l1.length : Int) then (if 0 ≤ (rd l1 (ji3)) then (if (rd l1 (ji3)) < 16 then (if 0 ≤ (rd l1 0) then (if (rd l1 0) < 16 then (spec_l02Least.l0 k l1 (l1.length : Int) (Arr.vrd2 16 s0_0 (rd l1 (ji3)) (rd l1 0)) 0 s0_0) else (none)) else (none)) else (none)) else (none)) else (none)) else (none)) else (none)) = some (r1, r2) := by first | (rw [hji3] at H; exact H) | (simp only [hji3] at H ⊢; exact H)); have hji3w : (IntKind.i64.wrap ((l1.length : Int) - 1)) = ji3 := (i64_w _).trans hji3; by_cases c4 : 0 ≤ (ji3)
  · rw [if_pos c4] at H; have c4b0 : decide (0 ≤ (ji3)) = true := decide_eq_true c4; clear c4; by_cases c5 : (ji3) < (l1.length : Int)
    · rw [if_pos c5] at H; have c5b0 : decide ((ji3) < (l1.length : Int)) = true := decide_eq_true c5; clear c5; by_cases c6 : 0 < (l1.length : Int)
      · rw [if_pos c6] at H; have c6b0 : decide (0 < (l1.length : Int)) = true := decide_eq_true c6; have c6b1 : decide (0 < l1.length) = true := decide_eq_true (by omega); clear c6; by_cases c7 : 0 ≤ (rd l1 (ji3))
        · rw [if_pos c7] at H; have c7b0 : decide (0 ≤ (rd l1 (ji3))) = true := decide_eq_true c7; clear c7; by_cases c8 : (rd l1 (ji3)) < 16
          · rw [if_pos c8] at H; have c8b0 : decide ((rd l1 (ji3)) < 16) = true := decide_eq_true c8; clear c8; by_cases c10 : 0 ≤ (rd l1 0)
            · rw [if_pos c10] at H; have c10b0 : decide (0 ≤ (rd l1 0)) = true := decide_eq_true c10; clear c10; by_cases c11 : (rd l1 0) < 16
              · rw [if_pos c11] at H; have c11b0 : decide ((rd l1 0) < 16) = true := decide_eq_true c11; clear c11; have H' := A_ H; clear H; go_enter Try.func68, Try.ntmps68; (try go_wp2); have n0_ := A_ (IsS92.drew HI0.out); have n1_ := A_ (keep_drew HK.out); have n2_ := A_ (below_drew1 HB.out); clear HI0; clear HK; clear HB; have HI0 := n0_; have HK := n1_; have HB := n2_; clear n0_ n1_ n2_; have p263 : 0 ≤ ((ji3) : Int) := of_decide_eq_true z3_; have q263 : (ji3) < (l1.length : Int) := of_decide_eq_true z3_; obtain ⟨ad263, e263, hx263_0⟩ := Kd.at_int HR1.out (ji3) p263 q263; have hw263_0 := hx263_0; cases e263; have hne263_0 := (show ((ad263.add ((ji3)).toNat) : Addr).block ≠ g from z64_); replace hx263_0 := keep_cell HK.out hx263_0 z87_; replace p263 := eq_true p263; replace q263 := eq_true q263; have p264 : 0 ≤ (0 : Int) := (by omega); have q264 : 0 < (l1.length : Int) := of_decide_eq_true z3_; obtain ⟨ad264, e264, hx264_0⟩ := Kd.at_int HR1.out 0 p264 q264; have hw264_0 := hx264_0; (try rw [show ((0 : Int)).toNat = 0 from rfl] at hw264_0); (try rw [show 0 * 1 = 0 from rfl] at hw264_0); (try rw [Addr.add_zero'] at hw264_0); obtain rfl : ad263 = ad264 := (by injection e264); have hne264_0 := (show (ad263 : Addr).block ≠ g from z64_); have qi264 : (0 < l1.length) = True := eq_true (by omega); (try rw [show ((0 : Int)).toNat = 0 from rfl] at hx264_0); (try rw [Addr.add_zero'] at hx264_0); replace hx264_0 := keep_cell HK.out hx264_0 z87_; replace p264 := eq_true p264; replace q264 := eq_true q264; have p9 : 0 ≤ ((rd l1 (ji3)) : Int) := of_decide_eq_true z3_; have q9 : ((rd l1 (ji3)) : Int) < 16 := of_decide_eq_true z3_; replace p9 := eq_true p9; replace q9 := eq_true q9; have p12 : 0 ≤ ((rd l1 0) : Int) := of_decide_eq_true z3_; have q12 : ((rd l1 0) : Int) < 16 := of_decide_eq_true z3_; replace p12 := eq_true p12; replace q12 := eq_true q12; refine start_ (n := 14) (S := fun w' => w'.cell? (ad263.add ((ji3)).toNat) = some (.int .i64 (rd l1 (ji3))) ∧ w'.cell? ad263 = some (.int .i64 (rd l1 0)) ∧ w'.cell? ⟨g, (rd l1 (ji3)).toNat * 16 + (rd l1 0).toNat, none⟩ = some (.int .i64 (Arr.vrd2 16 s0_0 (rd l1 (ji3)) (rd l1 0)))) (ds := []) #[false, false, false, false, false, false, false, false, false, false, false, false, false, false] z13_ rfl rfl ⟨(keep_cell HK.out hw263_0 hne263_0), (keep_cell HK.out hw264_0 hne264_0), (Arr.cellN (off := 0) (l := (Arr.arL .i64 s0_0)) ((HI0.out).1) rfl ((rd l1 (ji3)).toNat * 16 + (rd l1 0).toNat) ((rd l1 (ji3)).toNat * 16 + (rd l1 0).toNat) (by omega) (by have a0_ := of_eq_true p9; have b0_ := of_eq_true q9; have a1_ := of_eq_true p12; have b1_ := of_eq_true q12; omega))⟩ (fun hHeld => ?_); refine with_tabW spec_l02Least.tab2 spec_l02Least.bits2 (fun HT_ HW_ => ?_); generalize w.drew = w14 at HI0 HK HB hx263_0 hx264_0 hHeld ⊢; refine pure_ (i := 0) (N := some 10) (v := ?_) (a' := ?_) #[true, false, false, false, false, false, false, false, false, false, false, false, false, false] rfl rfl (any_of HT_.out z13_) (fun _ _ _ h => h) (Or.inl ⟨by rfl, ?_⟩) ?_ ?_; rotate_left
                · intro w'; go_simp; with_reducible rfl
                rotate_left
                · exact zp_
                refine pure_ (i := 1) (N := some 11) (v := ?_) (a' := ?_) #[true, true, false, false, false, false, false, false, false, false, false, false, false, false] rfl rfl (any_of HT_.out z13_) (fun _ _ _ h => h) (Or.inl ⟨by rfl, ?_⟩) ?_ ?_; rotate_left
                · intro w'; go_simp; with_reducible rfl
                rotate_left
                · exact zp_
                refine pure_ (i := 2) (N := some 12) (v := ?_) (a' := ?_) #[true, true, true, false, false, false, false, false, false, false, false, false, false, false] rfl rfl (any_of HT_.out z13_) (fun _ _ _ h => h) (Or.inl ⟨by rfl, ?_⟩) ?_ ?_; rotate_left
                · intro w'; go_simp; with_reducible rfl
                rotate_left
                · exact zp_
                refine pure_ (i := 3) (N := some 13) (v := ?_) (a' := ?_) #[true, true, true, true, false, false, false, false, false, false, false, false, false, false] rfl rfl (any_of HT_.out z13_) (fun _ _ _ h => h) (Or.inl ⟨by rfl, ?_⟩) ?_ ?_; rotate_left
                · intro w'; go_simp; with_reducible rfl
                rotate_left
                · exact zp_
                refine pure_ (i := 4) (N := some 14) (v := ?_) (a' := ?_) #[true, true, true, true, true, false, false, false, false, false, false, false, false, false] rfl rfl (any_of HT_.out z13_) (fun _ _ _ h => h) (Or.inl ⟨by rfl, ?_⟩) ?_ ?_; rotate_left
                · intro w'; go_simp; with_reducible rfl
                rotate_left
                · exact zp_
                refine pure_ (i := 6) (N := some 16) (v := ?_) (a' := ?_) #[true, true, true, true, true, false, true, false, false, false, false, false, false, false] rfl rfl (any_of HT_.out z13_) (fun _ _ _ h => h) (Or.inl ⟨by rfl, ?_⟩) ?_ ?_; rotate_left
                · intro w'; go_simp; with_reducible rfl
                rotate_left
                · exact zp_
                refine pure_ (i := 7) (N := some 17) (v := ?_) (a' := ?_) #[true, true, true, true, true, false, true, true, false, false, false, false, false, false] rfl rfl (any_of HT_.out z13_) (fun _ _ _ h => h) (Or.inl ⟨by rfl, ?_⟩) ?_ ?_; rotate_left
                · intro w'; go_simp; with_reducible rfl
                rotate_left
                · exact zp_
                refine pure_ (i := 9) (N := some 19) (v := ?_) (a' := ?_) #[true, true, true, true, true, false, true, true, false, true, false, false, false, false] rfl rfl (any_of HT_.out z13_) (fun _ _ _ h => h) (Or.inl ⟨by rfl, ?_⟩) ?_ ?_; rotate_left
                · intro w'; go_simp; with_reducible rfl
                rotate_left
                · exact zp_
                refine take_ (i := 5) (N := some 15) (v := ?_) (a' := ?_) #[true, true, true, true, true, true, true, true, false, true, false, false, false, false] rfl rfl (take_ofW HT_.out HW_.out z13_) (fun _ _ _ h => h) (Or.inl ⟨by rfl, ?_⟩) hHeld ?_ ?_; rotate_left
                · rintro w' ⟨s0, s1, s2⟩; go_simp; with_reducible rfl
                rotate_left
                · exact zp_
                refine pure_ (i := 10) (N := some 20) (v := ?_) (a' := ?_) #[true, true, true, true, true, true, true, true, false, true, true, false, false, false] rfl rfl (any_of HT_.out z13_) (fun _ _ _ h => h) (Or.inl ⟨by rfl, ?_⟩) ?_ ?_; rotate_left
                · intro w'; go_simp; with_reducible rfl
                rotate_left
                · exact zp_
                refine take_ (i := 8) (N := some 18) (v := ?_) (a' := ?_) #[true, true, true, true, true, true, true, true, true, true, true, false, false, false] rfl rfl (take_ofW HT_.out HW_.out z13_) (fun _ _ _ h => h) (Or.inl ⟨by rfl, ?_⟩) hHeld ?_ ?_; rotate_left
                · rintro w' ⟨s0, s1, s2⟩; go_simp; with_reducible rfl
                rotate_left
                · exact zp_
                refine pure_ (i := 11) (N := some 21) (v := ?_) (a' := ?_) #[true, true, true, true, true, true, true, true, true, true, true, true, false, false] rfl rfl (any_of HT_.out z13_) (fun _ _ _ h => h) (Or.inl ⟨by rfl, ?_⟩) ?_ ?_; rotate_left
                · intro w'; go_simp; with_reducible rfl
                rotate_left
                · exact zp_
                refine take_ (i := 12) (N := some 22) (v := ?_) (a' := ?_) #[true, true, true, true, true, true, true, true, true, true, true, true, true, false] rfl rfl (take_ofW HT_.out HW_.out z13_) (fun _ _ _ h => h) (Or.inl ⟨by rfl, ?_⟩) hHeld ?_ ?_; rotate_left
                · rintro w' ⟨s0, s1, s2⟩; go_simp; with_reducible rfl
                rotate_left
                · exact zp_
                refine pure_ (i := 13) (N := some 6) (v := ?_) (a' := ?_) #[true, true, true, true, true, true, true, true, true, true, true, true, true, true] rfl rfl (any_of HT_.out z13_) (fun _ _ _ h => h) (Or.inl ⟨by rfl, ?_⟩) ?_ ?_; rotate_left
                · intro w'; go_simp; with_reducible rfl
                rotate_left
                · exact zp_
                refine done_ (done_of HT_.out z13_) ?_; (try go_wp2); go_loopg [6, 7] k (fun kq v6 v7 w' => ∃ (x6_1 : Int) (x7_1 : Int), v6 = .int .i64 x6_1 ∧ v7 = .int .i64 x7_1 ∧ Aside0 (spec_l02Least.l0 kq l1 (l1.length : Int) x6_1 x7_1 s0_0 = some (r1, r2)) ∧ Aside0 (kq ≤ k) ∧ Aside0 (IsS92 w0 w' g s0_0) ∧ Aside0 (KeepBut w w' g none) ∧ Aside0 (Below w0.heap.size w0 w'))
                case atStart => exact ⟨(Arr.vrd2 16 s0_0 (rd l1 (ji3)) (rd l1 0)), (0), z101_, z11_, H', ⟨Nat.le_refl _⟩, ⟨z9_⟩, ⟨z6_⟩, ⟨z4_⟩⟩
                case round =>
                  clear H'; (try clear c1); (try clear p1); (try clear q1); (try clear p2); (try clear q2); (try clear hx2); (try clear qi2); (try clear c4); (try clear c4b0); (try clear c5); (try clear c5b0); (try clear c6); (try clear c6b0); (try clear c6b1); (try clear p6); (try clear c7); (try clear c7b0); (try clear c8); (try clear c8b0); (try clear p9); (try clear q9); (try clear c10); (try clear c10b0); (try clear c11); (try clear c11b0); (try clear p12); (try clear q12); (try clear hx263_0); (try clear hx264_0); (try clear p12); (try clear p263); (try clear p264); (try clear p9); (try clear q12); (try clear q263); (try clear q264); (try clear q9); obtain ⟨x6_1, x7_1, rfl, rfl, HA, HK1, HI0, HK, HB⟩ := hrel
                  cases gk with
                  | zero => exact absurd HA.out (by simp [spec_l02Least.l0])
                  | succ k1 =>
                    have H := HA.out; clear HA; simp only [spec_l02Least.l0] at H; by_cases c15 : (wrap64 (x7_1 + 1)) < (l1.length : Int)
                    · rw [if_pos c15] at H; have c15b0 : decide ((wrap64 (x7_1 + 1)) < (l1.length : Int)) = true := decide_eq_true c15; clear c15; by_cases c16 : 0 ≤ x7_1
                      · rw [if_pos c16] at H; have c16b0 : decide (0 ≤ x7_1) = true := decide_eq_true c16; clear c16; by_cases c17 : x7_1 < (l1.length : Int)
                        · rw [if_pos c17] at H; have c17b0 : decide (x7_1 < (l1.length : Int)) = true := decide_eq_true c17; clear c17; obtain ⟨ji18, hji18⟩ : ∃ j_ : Int, (wrap64 (x7_1 + 1)) = j_ := ⟨_, rfl⟩; (replace H : (if 0 ≤ (ji18) then (if (ji18) < (l1.length : Int) then (if 0 ≤ (rd l1 x7_1) then (if (rd l1 x7_1) < 16 then (if 0 ≤ (rd l1 (ji18)) then (if (rd l1 (ji18)) < 16 then ((spec_l00Min.f x6_1 (Arr.vrd2 16 s0_0 (rd l1 x7_1) (rd l1 (ji18)))).bind fun t267 => (spec_l02Least.l0 k1 l1 (l1.length : Int) t267 ji18 s0_0)) else (none)) else (none)) else (none)) else (none)) else (none)) else (none)) = some (r1, r2) := by first | (rw [hji18] at H; exact H) | (simp only [hji18] at H ⊢; exact H)); (try rw [hji18] at c15b0); have hji18w : (IntKind.i64.wrap (x7_1 + 1)) = ji18 := (i64_w _).trans hji18; by_cases c19 : 0 ≤ (ji18)
                          · rw [if_pos c19] at H; have c19b0 : decide (0 ≤ (ji18)) = true := decide_eq_true c19; clear c19; by_cases c20 : (ji18) < (l1.length : Int)
                            · rw [if_pos c20] at H; have c20b0 : decide ((ji18) < (l1.length : Int)) = true := decide_eq_true c20; clear c20; by_cases c21 : 0 ≤ (rd l1 x7_1)
                              · rw [if_pos c21] at H; have c21b0 : decide (0 ≤ (rd l1 x7_1)) = true := decide_eq_true c21; clear c21; by_cases c22 : (rd l1 x7_1) < 16
                                · rw [if_pos c22] at H; have c22b0 : decide ((rd l1 x7_1) < 16) = true := decide_eq_true c22; clear c22; by_cases c24 : 0 ≤ (rd l1 (ji18))
                                  · rw [if_pos c24] at H; have c24b0 : decide (0 ≤ (rd l1 (ji18))) = true := decide_eq_true c24; clear c24; by_cases c25 : (rd l1 (ji18)) < 16
                                    · rw [if_pos c25] at H; have c25b0 : decide ((rd l1 (ji18)) < 16) = true := decide_eq_true c25; clear c25; replace H := Option.bind_eq_some_iff.mp H; obtain ⟨t267, A280, H⟩ := H; replace H : (spec_l02Least.l0 k1 l1 (l1.length : Int) t267 ji18 s0_0) = some (r1, r2) := H; have A28 := A_ A280; clear A280; have H' := A_ H; clear H; (try go_wp2); have n0_ := A_ (IsS92.drew HI0.out); have n1_ := A_ (keep_drew HK.out); have n2_ := A_ (below_drew1 HB.out); clear HI0; clear HK; clear HB; have HI0 := n0_; have HK := n1_; have HB := n2_; clear n0_ n1_ n2_; have p265 : 0 ≤ (x7_1 : Int) := of_decide_eq_true z3_; have q265 : x7_1 < (l1.length : Int) := of_decide_eq_true z3_; obtain ⟨ad265, e265, hx265_0⟩ := Kd.at_int HR1.out x7_1 p265 q265; have hw265_0 := hx265_0; obtain rfl : ad263 = ad265 := (by injection e265); have hne265_0 := (show ((ad263.add (x7_1).toNat) : Addr).block ≠ g from z64_); replace hx265_0 := keep_cell HK.out hx265_0 z87_; replace p265 := eq_true p265; replace q265 := eq_true q265; have p266 : 0 ≤ ((ji18) : Int) := of_decide_eq_true z3_; have q266 : (ji18) < (l1.length : Int) := of_decide_eq_true z3_; obtain ⟨ad266, e266, hx266_0⟩ := Kd.at_int HR1.out (ji18) p266 q266; have hw266_0 := hx266_0; obtain rfl : ad263 = ad266 := (by injection e266); have hne266_0 := (show ((ad263.add ((ji18)).toNat) : Addr).block ≠ g from z64_); replace hx266_0 := keep_cell HK.out hx266_0 z87_; replace p266 := eq_true p266; replace q266 := eq_true q266; have p23 : 0 ≤ ((rd l1 x7_1) : Int) := of_decide_eq_true z3_; have q23 : ((rd l1 x7_1) : Int) < 16 := of_decide_eq_true z3_; replace p23 := eq_true p23; replace q23 := eq_true q23; have p26 : 0 ≤ ((rd l1 (ji18)) : Int) := of_decide_eq_true z3_; have q26 : ((rd l1 (ji18)) : Int) < 16 := of_decide_eq_true z3_; replace p26 := eq_true p26; replace q26 := eq_true q26; refine start_ (n := 17) (S := fun w' => w'.cell? (ad263.add (x7_1).toNat) = some (.int .i64 (rd l1 x7_1)) ∧ w'.cell? (ad263.add ((ji18)).toNat) = some (.int .i64 (rd l1 (ji18))) ∧ w'.cell? ⟨g, (rd l1 x7_1).toNat * 16 + (rd l1 (ji18)).toNat, none⟩ = some (.int .i64 (Arr.vrd2 16 s0_0 (rd l1 x7_1) (rd l1 (ji18))))) (ds := []) #[false, false, false, false, false, false, false, false, false, false, false, false, false, false, false, false, false] z13_ rfl rfl ⟨(keep_cell HK.out hw265_0 hne265_0), (keep_cell HK.out hw266_0 hne266_0), (Arr.cellN (off := 0) (l := (Arr.arL .i64 s0_0)) ((HI0.out).1) rfl ((rd l1 x7_1).toNat * 16 + (rd l1 (ji18)).toNat) ((rd l1 x7_1).toNat * 16 + (rd l1 (ji18)).toNat) (by omega) (by have a0_ := of_eq_true p23; have b0_ := of_eq_true q23; have a1_ := of_eq_true p26; have b1_ := of_eq_true q26; omega))⟩ (fun hHeld => ?_); refine with_tabW spec_l02Least.tab6 spec_l02Least.bits6 (fun HT_ HW_ => ?_); generalize wr.drew = w29 at HI0 HK HB hx265_0 hx266_0 hHeld ⊢; refine pure_ (i := 0) (N := some 29) (v := ?_) (a' := ?_) #[true, false, false, false, false, false, false, false, false, false, false, false, false, false, false, false, false] rfl rfl (any_of HT_.out z13_) (fun _ _ _ h => h) (Or.inl ⟨by rfl, ?_⟩) ?_ ?_; rotate_left
                                      · intro w'; go_simp; with_reducible rfl
                                      rotate_left
                                      · exact zp_
                                      refine pure_ (i := 1) (N := some 30) (v := ?_) (a' := ?_) #[true, true, false, false, false, false, false, false, false, false, false, false, false, false, false, false, false] rfl rfl (any_of HT_.out z13_) (fun _ _ _ h => h) (Or.inl ⟨by rfl, ?_⟩) ?_ ?_; rotate_left
                                      · intro w'; go_simp; with_reducible rfl
                                      rotate_left
                                      · exact zp_
                                      refine pure_ (i := 2) (N := some 31) (v := ?_) (a' := ?_) #[true, true, true, false, false, false, false, false, false, false, false, false, false, false, false, false, false] rfl rfl (any_of HT_.out z13_) (fun _ _ _ h => h) (Or.inl ⟨by rfl, ?_⟩) ?_ ?_; rotate_left
                                      · intro w'; go_simp; with_reducible rfl
                                      rotate_left
                                      · exact zp_
                                      refine pure_ (i := 3) (N := some 32) (v := ?_) (a' := ?_) #[true, true, true, true, false, false, false, false, false, false, false, false, false, false, false, false, false] rfl rfl (any_of HT_.out z13_) (fun _ _ _ h => h) (Or.inl ⟨by rfl, ?_⟩) ?_ ?_; rotate_left
                                      · intro w'; go_simp; with_reducible rfl
                                      rotate_left
                                      · exact zp_
                                      refine pure_ (i := 4) (N := some 33) (v := ?_) (a' := ?_) #[true, true, true, true, true, false, false, false, false, false, false, false, false, false, false, false, false] rfl rfl (any_of HT_.out z13_) (fun _ _ _ h => h) (Or.inl ⟨by rfl, ?_⟩) ?_ ?_; rotate_left
                                      · intro w'; go_simp; with_reducible rfl
                                      rotate_left
                                      · exact zp_
                                      refine pure_ (i := 6) (N := some 35) (v := ?_) (a' := ?_) #[true, true, true, true, true, false, true, false, false, false, false, false, false, false, false, false, false] rfl rfl (any_of HT_.out z13_) (fun _ _ _ h => h) (Or.inl ⟨by rfl, ?_⟩) ?_ ?_; rotate_left
                                      · intro w'; go_simp; with_reducible rfl
                                      rotate_left
                                      · exact zp_
                                      refine pure_ (i := 7) (N := some 36) (v := ?_) (a' := ?_) #[true, true, true, true, true, false, true, true, false, false, false, false, false, false, false, false, false] rfl rfl (any_of HT_.out z13_) (fun _ _ _ h => h) (Or.inl ⟨by rfl, ?_⟩) ?_ ?_; rotate_left
                                      · intro w'; go_simp; with_reducible rfl
                                      rotate_left
                                      · exact zp_
                                      refine pure_ (i := 8) (N := some 37) (v := ?_) (a' := ?_) #[true, true, true, true, true, false, true, true, true, false, false, false, false, false, false, false, false] rfl rfl (any_of HT_.out z13_) (fun _ _ _ h => h) (Or.inl ⟨by rfl, ?_⟩) ?_ ?_; rotate_left
                                      · intro w'; go_simp; with_reducible rfl
                                      rotate_left
                                      · exact zp_
                                      refine pure_ (i := 9) (N := some 38) (v := ?_) (a' := ?_) #[true, true, true, true, true, false, true, true, true, true, false, false, false, false, false, false, false] rfl rfl (any_of HT_.out z13_) (fun _ _ _ h => h) (Or.inl ⟨by rfl, ?_⟩) ?_ ?_; rotate_left
                                      · intro w'; go_simp; with_reducible rfl
                                      rotate_left
                                      · exact zp_
                                      refine pure_ (i := 11) (N := some 40) (v := ?_) (a' := ?_) #[true, true, true, true, true, false, true, true, true, true, false, true, false, false, false, false, false] rfl rfl (any_of HT_.out z13_) (fun _ _ _ h => h) (Or.inl ⟨by rfl, ?_⟩) ?_ ?_; rotate_left
                                      · intro w'; go_simp; with_reducible rfl
                                      rotate_left
                                      · exact zp_
                                      refine take_ (i := 5) (N := some 34) (v := ?_) (a' := ?_) #[true, true, true, true, true, true, true, true, true, true, false, true, false, false, false, false, false] rfl rfl (take_ofW HT_.out HW_.out z13_) (fun _ _ _ h => h) (Or.inl ⟨by rfl, ?_⟩) hHeld ?_ ?_; rotate_left
                                      · rintro w' ⟨s0, s1, s2⟩; go_simp; with_reducible rfl
                                      rotate_left
                                      · exact zp_
                                      refine pure_ (i := 12) (N := some 41) (v := ?_) (a' := ?_) #[true, true, true, true, true, true, true, true, true, true, false, true, true, false, false, false, false] rfl rfl (any_of HT_.out z13_) (fun _ _ _ h => h) (Or.inl ⟨by rfl, ?_⟩) ?_ ?_; rotate_left
                                      · intro w'; go_simp; with_reducible rfl
                                      rotate_left
                                      · exact zp_
                                      refine take_ (i := 10) (N := some 39) (v := ?_) (a' := ?_) #[true, true, true, true, true, true, true, true, true, true, true, true, true, false, false, false, false] rfl rfl (take_ofW HT_.out HW_.out z13_) (fun _ _ _ h => h) (Or.inl ⟨by rfl, ?_⟩) hHeld ?_ ?_; rotate_left
                                      · rintro w' ⟨s0, s1, s2⟩; go_simp; with_reducible rfl
                                      rotate_left
                                      · exact zp_
                                      refine pure_ (i := 13) (N := some 42) (v := ?_) (a' := ?_) #[true, true, true, true, true, true, true, true, true, true, true, true, true, true, false, false, false] rfl rfl (any_of HT_.out z13_) (fun _ _ _ h => h) (Or.inl ⟨by rfl, ?_⟩) ?_ ?_; rotate_left
                                      · intro w'; go_simp; with_reducible rfl
                                      rotate_left
                                      · exact zp_
                                      refine take_ (i := 14) (N := some 43) (v := ?_) (a' := ?_) #[true, true, true, true, true, true, true, true, true, true, true, true, true, true, true, false, false] rfl rfl (take_ofW HT_.out HW_.out z13_) (fun _ _ _ h => h) (Or.inl ⟨by rfl, ?_⟩) hHeld ?_ ?_; rotate_left
                                      · rintro w' ⟨s0, s1, s2⟩; go_simp; with_reducible rfl
                                      rotate_left
                                      · exact zp_
                                      refine one_ (i := 15) (N := some 44) #[true, true, true, true, true, true, true, true, true, true, true, true, true, true, true, true, false] rfl rfl (one_of HT_.out z13_) (by decide) (fun K hK => ?_); refine goes_ Try.func63 z13_ rfl #[.int .i64 x6_1, .int .i64 (Arr.vrd2 16 s0_0 (rd l1 x7_1) (rd l1 (ji18)))] (by rfl) rfl rfl (by (try simp only [List.map_toArray, List.map_cons, List.map_nil]); first | done | (simp only [hji18]; rfl) | (go_simp; done) | rfl | (simp only [List.length_drop, List.length_take]; rfl)) ?_; (with_reducible refine (spec_l00Min.calls x6_1 (Arr.vrd2 16 s0_0 (rd l1 x7_1) (rd l1 (ji18))) t267 _ A28.out).mono ?_); rintro e w30 ⟨rfl, hb⟩; refine ⟨_, rfl, ?_⟩; have n0_ := A_ (IsS92.below z9_ hb); have n1_ := A_ (KeepBut.trans z6_ (KeepBut.of_below hb g none) (.inl rfl)); have n2_ := A_ (below_step z4_ hb); clear HI0; clear HK; clear HB; have HI0 := n0_; have HK := n1_; have HB := n2_; clear n0_ n1_ n2_; (try clear hb); (try clear hb2); (try clear hk); (try clear hi); refine hK.out _ _ ⟨(keep_cell HK.out hw265_0 hne265_0), (keep_cell HK.out hw266_0 hne266_0), (Arr.cellN (off := 0) (l := (Arr.arL .i64 s0_0)) ((HI0.out).1) rfl ((rd l1 x7_1).toNat * 16 + (rd l1 (ji18)).toNat) ((rd l1 x7_1).toNat * 16 + (rd l1 (ji18)).toNat) (by omega) (by have a0_ := of_eq_true p23; have b0_ := of_eq_true q23; have a1_ := of_eq_true p26; have b1_ := of_eq_true q26; omega))⟩ (fun hHeld => ?_); clear hK K; refine norm_ (a' := ?_) ?_ ?_; rotate_left
                                      · show Act.put _ (some 44) _ = _; exact zp_
                                      refine pure_ (i := 16) (N := some 6) (v := ?_) (a' := ?_) #[true, true, true, true, true, true, true, true, true, true, true, true, true, true, true, true, true] rfl rfl (any_of HT_.out z13_) (fun _ _ _ h => h) (Or.inl ⟨by rfl, ?_⟩) ?_ ?_; rotate_left
                                      · intro w'; go_simp; with_reducible rfl
                                      rotate_left
                                      · exact zp_
                                      refine done_ (done_of HT_.out z13_) ?_; (try go_wp2); go_roundg k1
                                      case measure => have := HK1.out; omega
                                      case rel => exact ⟨(t267), (ji18), z11_, (by first | rfl | (simp; done) | (simp only [← hji18] <;> (first | rfl | simp)) | (simp [*]; done)), H', ⟨z46_⟩, ⟨z9_⟩, ⟨z6_⟩, ⟨z4_⟩⟩
                                    · rw [if_neg c25] at H; exact absurd H (by simp)
                                  · rw [if_neg c24] at H; exact absurd H (by simp)
                                · rw [if_neg c22] at H; exact absurd H (by simp)
                              · rw [if_neg c21] at H; exact absurd H (by simp)
                            · rw [if_neg c20] at H; exact absurd H (by simp)
                          · rw [if_neg c19] at H; exact absurd H (by simp)
                        · rw [if_neg c17] at H; exact absurd H (by simp)
                      · rw [if_neg c16] at H; exact absurd H (by simp)
                    · rw [if_neg c15] at H; have c15b0 : decide ((wrap64 (x7_1 + 1)) < (l1.length : Int)) = false := decide_eq_false c15; clear c15; simp only [Option.some.injEq, Prod.mk.injEq] at H; obtain ⟨rfl, rfl⟩ := H; go_wp2; go_ret; exact ⟨z65_, z9_, z4_, z6_⟩
              · rw [if_neg c11] at H; exact absurd H (by simp)
            · rw [if_neg c10] at H; exact absurd H (by simp)
          · rw [if_neg c8] at H; exact absurd H (by simp)
        · rw [if_neg c7] at H; exact absurd H (by simp)
      · rw [if_neg c6] at H; exact absurd H (by simp)
    · rw [if_neg c5] at H; exact absurd H (by simp)
  · rw [if_neg c4] at H; exact absurd H (by simp)

end Go.Proofs.Ytofcgkcpkngocaa.MCircles
