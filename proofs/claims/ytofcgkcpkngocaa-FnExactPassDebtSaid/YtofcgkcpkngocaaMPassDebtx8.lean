-- by a program of this session, for this claim
import Derived.Test.YtofcgkcpkngocaaMPassDebtx0
import Derived.Test.YtofcgkcpkngocaaMPassDebtx6
import Derived.Test.YtofcgkcpkngocaaMPassDebtx7
namespace Go.Proofs.Ytofcgkcpkngocaa.MPassDebt
open Go.RowKit Go.Proofs.YtofcgkcpkngocaaW.PrintWords Go.Proofs.YtofcgkcpkngocaaW.PrintLast Go.Proofs.YtofcgkcpkngocaaW.PrintMore
attribute [local go_sem] max2_int min2_int max_two min_two max_three min_three max_four min_four   -- for this text's walks alone
set_option linter.unusedVariables false
set_option linter.unusedSimpArgs false

/-! ### impl_PassDebt: function 39 -/
def impl_PassDebt.j0 : Nat → Int → Int → Int → Int → Bool → Vector Int 256 → Option ((List (S65)) × Int)
  | 0, _, _, _, _, _, _ => none
  | k + 1, x2, x3, x4, x5, x57, x203000 => if x57 = true then (some (([] : List (S65)), 4)) else (if 0 ≤ x2 then (if x2 < 16 then (if 0 ≤ x3 then (if x3 < 16 then ((some (Arr.vst2 16 x203000 x2 x3 (wrap64 ((Arr.vrd2 16 x203000 x2 x3) - x5)) : Vector Int 256)).bind fun y203 => (if 0 ≤ x4 then (if x4 < 16 then ((some (Arr.vst2 16 y203 x3 x4 (wrap64 ((Arr.vrd2 16 y203 x3 x4) - x5)) : Vector Int 256)).bind fun y204 => (if x2 = x4 then ((impl_sums_debts.f k y204).bind fun bt205 => (some (bt205.1, bt205.2))) else ((impl_sums_debts.f k (Arr.vst2 16 y204 x2 x4 (wrap64 ((Arr.vrd2 16 y204 x2 x4) + x5)))).bind fun bt210 => (some (bt210.1, bt210.2))))) else (none)) else (none))) else (none)) else (none)) else (none)) else (none))
def impl_PassDebt.f (k : Nat) (a0 : Int) (l1 : List (S65)) (a2 : Int) (a3 : Int) (a4 : Int) (a5 : Int) : Option ((List (S65)) × Int) := (impl_debtsCode.f k a0 l1 (([a2, a3, a4] : List Int))).bind fun t200 => (if t200 = 0 then ((impl_sumsOf.f k l1).bind fun t201 => (if a2 = a3 then (impl_PassDebt.j0 k a2 a3 a4 a5 true t201) else (if a3 = a4 then (impl_PassDebt.j0 k a2 a3 a4 a5 true t201) else (if a5 < 1 then (impl_PassDebt.j0 k a2 a3 a4 a5 true t201) else (if 0 ≤ a2 then (if a2 < 16 then (if 0 ≤ a3 then (if a3 < 16 then (if a5 > (Arr.vrd2 16 t201 a2 a3) then (impl_PassDebt.j0 k a2 a3 a4 a5 true t201) else (if 0 ≤ a4 then (if a4 < 16 then (impl_PassDebt.j0 k a2 a3 a4 a5 (decide (a5 > (Arr.vrd2 16 t201 a3 a4))) t201) else (none)) else (none))) else (none)) else (none)) else (none)) else (none)))))) else (some (([] : List (S65)), t200)))
theorem impl_PassDebt.mono_l : ∀ k, (∀ y0 y1 y2 y3 y4 y5, LeO (impl_PassDebt.j0 k y0 y1 y2 y3 y4 y5) (impl_PassDebt.j0 (k + 1) y0 y1 y2 y3 y4 y5))
  | 0 => fun _ _ _ _ _ _ r h => by simp [impl_PassDebt.j0] at h
  | k + 1 => by
    have ih0 := impl_PassDebt.mono_l k
    · intro y0 y1 y2 y3 y4 y5
      unfold impl_PassDebt.j0
      repeat' first
      | (with_reducible exact ih0 _ _ _ _ _ _)
      | (with_reducible exact impl_debtsCode.mono _ _ _ _)
      | (with_reducible exact impl_sumsOf.mono _ _)
      | (with_reducible exact impl_sums_debts.mono _ _)
      | (with_reducible exact LeO.refl _)
      | (with_reducible exact LeO.none _)
      | (with_reducible refine LeO.ite ?_ ?_)
      | (with_reducible refine LeO.bind ?_ (fun _ => ?_))
      | exact ih0 _ _ _ _ _ _
      | exact impl_debtsCode.mono _ _ _ _
      | exact impl_sumsOf.mono _ _
      | exact impl_sums_debts.mono _ _
      | exact LeO.none _
      | refine LeO.ite ?_ ?_
      | refine LeO.bind ?_ (fun _ => ?_)
theorem impl_PassDebt.mono : ∀ a0 a1 a2 a3 a4 a5 k, LeO (impl_PassDebt.f k a0 a1 a2 a3 a4 a5) (impl_PassDebt.f (k + 1) a0 a1 a2 a3 a4 a5) := by
  intro a0 a1 a2 a3 a4 a5 k
  have ih0 := impl_PassDebt.mono_l k
  unfold impl_PassDebt.f
  repeat' first
      | (with_reducible exact ih0 _ _ _ _ _ _)
      | (with_reducible exact impl_debtsCode.mono _ _ _ _)
      | (with_reducible exact impl_sumsOf.mono _ _)
      | (with_reducible exact impl_sums_debts.mono _ _)
      | (with_reducible exact LeO.refl _)
      | (with_reducible exact LeO.none _)
      | (with_reducible refine LeO.ite ?_ ?_)
      | (with_reducible refine LeO.bind ?_ (fun _ => ?_))
      | exact ih0 _ _ _ _ _ _
      | exact impl_debtsCode.mono _ _ _ _
      | exact impl_sumsOf.mono _ _
      | exact impl_sums_debts.mono _ _
      | exact LeO.none _
      | refine LeO.ite ?_ ?_
      | refine LeO.bind ?_ (fun _ => ?_)
def impl_PassDebt.T7 : Bool × List (List Nat × List Nat) := (true, [([], []), ([], []), ([0], [0]), ([2, 1], [1, 2]), ([3], [3]), ([], []), ([4, 5], [4, 5]), ([0], [0]), ([7, 1, 0, 1, 2, 3, 4, 5, 6], [1, 7]), ([8, 6, 0, 1, 2, 3, 4, 5, 6], [6, 8])])
def impl_PassDebt.B7 : List Nat := [0, 0, 1, 7, 15, 0, 63, 1, 255, 511]
theorem impl_PassDebt.tab7 : rtab .any (opsOf Try.f39 7) = impl_PassDebt.T7 := by kernel_rfl
theorem impl_PassDebt.bits7 : waitsOk impl_PassDebt.T7.2 impl_PassDebt.B7 = true := by kernel_rfl
def impl_PassDebt.T8 : Bool × List (List Nat × List Nat) := (true, [([], []), ([], []), ([0], [0]), ([2, 1], [1, 2]), ([3], [3]), ([], []), ([4, 5], [4, 5]), ([0], [0]), ([7, 1, 0, 1, 2, 3, 4, 5, 6], [1, 7]), ([8, 6, 0, 1, 2, 3, 4, 5, 6], [6, 8])])
def impl_PassDebt.B8 : List Nat := [0, 0, 1, 7, 15, 0, 63, 1, 255, 511]
theorem impl_PassDebt.tab8 : rtab .any (opsOf Try.f39 8) = impl_PassDebt.T8 := by kernel_rfl
theorem impl_PassDebt.bits8 : waitsOk impl_PassDebt.T8.2 impl_PassDebt.B8 = true := by kernel_rfl
def impl_PassDebt.T10 : Bool × List (List Nat × List Nat) := (true, [([], []), ([], []), ([0], [0]), ([2, 1], [1, 2]), ([3], [3]), ([], []), ([4, 5], [4, 5]), ([0], [0]), ([7, 1, 0, 1, 2, 3, 4, 5, 6], [1, 7]), ([8, 6, 0, 1, 2, 3, 4, 5, 6], [6, 8])])
def impl_PassDebt.B10 : List Nat := [0, 0, 1, 7, 15, 0, 63, 1, 255, 511]
theorem impl_PassDebt.tab10 : rtab .any (opsOf Try.f39 10) = impl_PassDebt.T10 := by kernel_rfl
theorem impl_PassDebt.bits10 : waitsOk impl_PassDebt.T10.2 impl_PassDebt.B10 = true := by kernel_rfl
set_option maxHeartbeats 8000000 in
set_option maxRecDepth 100000 in
theorem impl_PassDebt.calls (k : Nat) (a0 : Int) (A1 : Option Addr) (c1 : Nat) (l1 : List (S65)) (a2 : Int) (a3 : Int) (a4 : Int) (a5 : Int) (r1 : List (S65)) (r2 : Int) (w : World) (hr1 : Kd.C k65 w A1 l1.length l1) (hc1 : l1.length ≤ c1) (h : impl_PassDebt.f k a0 l1 a2 a3 a4 a5 = some (r1, r2)) :
    Calls Try.prog 39 #[.int .i64 a0, .slice A1 l1.length c1, .int .i64 a2, .int .i64 a3, .int .i64 a4, .int .i64 a5] w fun e w' => ∃ v0_ : Value, e = .returned (.tuple #[v0_, .int .i64 r2]) ∧ Kd.R k65 65 w' w.heap.size (fun _ => True) v0_ r1 ∧ Below w.heap.size w w' := by
  have hu70 := Try.underlying70
  have HR1 := Aside0.mk hr1
  have HC1 := Aside0.mk hc1
  clear hr1 hc1
  have HB := Aside0.mk (Below.refl w.heap.size w)
  have H : ((impl_debtsCode.f k a0 l1 (([a2, a3, a4] : List Int))).bind fun t200 => (if t200 = 0 then ((impl_sumsOf.f k l1).bind fun t201 => (if a2 = a3 then (impl_PassDebt.j0 k a2 a3 a4 a5 true t201) else (if a3 = a4 then (impl_PassDebt.j0 k a2 a3 a4 a5 true t201) else (if a5 < 1 then (impl_PassDebt.j0 k a2 a3 a4 a5 true t201) else (if 0 ≤ a2 then (if a2 < 16 then (if 0 ≤ a3 then (if a3 < 16 then (if a5 > (Arr.vrd2 16 t201 a2 a3) then (impl_PassDebt.j0 k a2 a3 a4 a5 true t201) else (if 0 ≤ a4 then (if a4 < 16 then (impl_PassDebt.j0 k a2 a3 a4 a5 (decide (a5 > (Arr.vrd2 16 t201 a3 a4))) t201) else (none)) else (none))) else (none)) else (none)) else (none)) else (none)))))) else (some (([] : List (S65)), t200)))) = some (r1, r2) := h
  clear h
  obtain ⟨y197, hy197⟩ : ∃ y_ : List Int, y_ = (([a2, a3, a4] : List Int)) := ⟨_, rfl⟩
  replace H : ((impl_debtsCode.f k a0 l1 y197).bind fun t200 => (if t200 = 0 then ((impl_sumsOf.f k l1).bind fun t201 => (if a2 = a3 then (impl_PassDebt.j0 k a2 a3 a4 a5 true t201) else (if a3 = a4 then (impl_PassDebt.j0 k a2 a3 a4 a5 true t201) else (if a5 < 1 then (impl_PassDebt.j0 k a2 a3 a4 a5 true t201) else (if 0 ≤ a2 then (if a2 < 16 then (if 0 ≤ a3 then (if a3 < 16 then (if a5 > (Arr.vrd2 16 t201 a2 a3) then (impl_PassDebt.j0 k a2 a3 a4 a5 true t201) else (if 0 ≤ a4 then (if a4 < 16 then (impl_PassDebt.j0 k a2 a3 a4 a5 (decide (a5 > (Arr.vrd2 16 t201 a3 a4))) t201) else (none)) else (none))) else (none)) else (none)) else (none)) else (none)))))) else (some (([] : List (S65)), t200)))) = some (r1, r2) := by first | (rw [hy197]; with_reducible exact H) | (have H2_ := (Option.bind_some _ _).symm.trans H; rw [hy197]; with_reducible exact H2_) | (have H2_ := (Option.bind_some _ _).symm.trans H; with_reducible exact H2_) | with_reducible exact H | (rw [hy197]; exact H) | exact H
  have Ny197 := Aside0.mk hy197
  clear hy197
  replace H := Option.bind_eq_some_iff.mp H
  obtain ⟨t200, A70, H⟩ := H
  replace H : (if t200 = 0 then ((impl_sumsOf.f k l1).bind fun t201 => (if a2 = a3 then (impl_PassDebt.j0 k a2 a3 a4 a5 true t201) else (if a3 = a4 then (impl_PassDebt.j0 k a2 a3 a4 a5 true t201) else (if a5 < 1 then (impl_PassDebt.j0 k a2 a3 a4 a5 true t201) else (if 0 ≤ a2 then (if a2 < 16 then (if 0 ≤ a3 then (if a3 < 16 then (if a5 > (Arr.vrd2 16 t201 a2 a3) then (impl_PassDebt.j0 k a2 a3 a4 a5 true t201) else (if 0 ≤ a4 then (if a4 < 16 then (impl_PassDebt.j0 k a2 a3 a4 a5 (decide (a5 > (Arr.vrd2 16 t201 a3 a4))) t201) else (none)) else (none))) else (none)) else (none)) else (none)) else (none)))))) else (some (([] : List (S65)), t200))) = some (r1, r2) := H
  have A7 := Aside0.mk A70
  clear A70
  by_cases c8 : t200 = 0
  · rw [if_pos c8] at H
    have c8b0 : (t200 == 0) = true := beq_iff_eq.mpr c8
    have c8b1 : (t200 != 0) = false := bne_eq_false_iff_eq.mpr c8
    clear c8
    replace H := Option.bind_eq_some_iff.mp H
    obtain ⟨t201, A90, H⟩ := H
    replace H : (if a2 = a3 then (impl_PassDebt.j0 k a2 a3 a4 a5 true t201) else (if a3 = a4 then (impl_PassDebt.j0 k a2 a3 a4 a5 true t201) else (if a5 < 1 then (impl_PassDebt.j0 k a2 a3 a4 a5 true t201) else (if 0 ≤ a2 then (if a2 < 16 then (if 0 ≤ a3 then (if a3 < 16 then (if a5 > (Arr.vrd2 16 t201 a2 a3) then (impl_PassDebt.j0 k a2 a3 a4 a5 true t201) else (if 0 ≤ a4 then (if a4 < 16 then (impl_PassDebt.j0 k a2 a3 a4 a5 (decide (a5 > (Arr.vrd2 16 t201 a3 a4))) t201) else (none)) else (none))) else (none)) else (none)) else (none)) else (none))))) = some (r1, r2) := H
    have A9 := Aside0.mk A90
    clear A90
    have HC11 := Aside0.mk H
    clear H
    go_enter Try.func39, Try.ntmps39
    go_upto_region 5 with (first | ((with_reducible refine gate_dst (N := 21) rfl ?_); refine Kd.R_lit (Kd.int .i64) _ 2 ?hg (N := 21) ?hd (xs := ([a2, a3, a4] : List Int)) (inner := [.int .i64 a2, .int .i64 a3, .int .i64 a4]) (ok := fun _ => True) (okp := fun _ => True) ?hr ?hp (fun _ hk => hk) trivial (Below.refl _ _) (Nat.le_refl _) (by simp) ?_; (case hd => rfl); (case hg => rfl); (case hr => first | (go_simp; done) | (go_simp; rfl)); (case hp => exact (Reps.one (show Kd.M (Kd.int .i64) _ _ _ a2 [.int .i64 a2] from rfl) (Reps.one (show Kd.M (Kd.int .i64) _ _ _ a3 [.int .i64 a3] from rfl) (Reps.one (show Kd.M (Kd.int .i64) _ _ _ a4 [.int .i64 a4] from rfl) (Reps.none _ _))))); intro v198 w12 ho13 hb hg_ hnew_; clear hg_ hnew_; (first | rw [← Ny197.out] at ho13 | (simp only [Int.reduceToNat] at ho13; rw [← Ny197.out] at ho13)); have n0_ := Aside0.mk (Kd.R_lower ho13 (below_size (by repeat (first | (with_reducible first | exact HB.out | apply below_alloc | apply pw_below_drewN | apply below_drew1) | exact HB.out)))); have n1_ := Aside0.mk (below_step (by repeat (first | (with_reducible first | exact HB.out | apply below_alloc | apply pw_below_drewN | apply below_drew1) | exact HB.out)) hb); clear HB; have HO199 := n0_; have HB := n1_; clear n0_ n1_; clear hb ho13; obtain ⟨Ao14, co14, eo14⟩ := Kd.R_slice HO199.out; subst eo14) | ((with_reducible refine gate_callee (f := 56) rfl ?_); refine goesL_ (some 22) rfl rfl Try.func56 (by kernel_rfl) rfl #[.int .i64 a0, .slice A1 l1.length c1, .slice Ao14 y197.length co14] rfl (by (try simp only [List.map_toArray, List.map_cons, List.map_nil]); first | done | (go_simp; done) | rfl | (simp only [List.length_drop, List.length_take]; rfl)) ?_; (with_reducible refine (impl_debtsCode.calls k a0 _ _ l1 _ _ y197 t200 _ ?side1 ?side2 ?side3 ?side4 A7.out).mono ?_); (case side1 => repeat (first | exact (Kd.C_below HR1.out HB.out) | (with_reducible refine Kd.C_alloc ?_ _) | (with_reducible refine Kd.C_drewN ?_ _) | (with_reducible refine Kd.C_drew ?_))); (case side2 => exact HC1.out); (case side3 => repeat (first | exact (Kd.R_reads' HO199.out).2.2 | (with_reducible refine Kd.C_alloc ?_ _) | (with_reducible refine Kd.C_drewN ?_ _) | (with_reducible refine Kd.C_drew ?_))); (case side4 => exact (Kd.R_reads' HO199.out).2.1); rintro e w15 ⟨rfl, hb⟩; refine ⟨_, rfl, ?_⟩; have n0_ := Aside0.mk (Kd.R_below (by (with_reducible repeat (first | apply Kd.R_alloc | apply Kd.R_drewN | apply Kd.R_drew)); exact HO199.out) hb); have n1_ := Aside0.mk (below_step (by repeat (first | (with_reducible first | exact HB.out | apply below_alloc | apply pw_below_drewN | apply below_drew1) | exact HB.out)) hb); clear HO199; clear HB; have HO199 := n0_; have HB := n1_; clear n0_ n1_; (try clear hb); (try clear hb2); (try clear hk); (try clear hi)) | ((with_reducible refine gate_callee (f := 57) rfl ?_); refine goesL_ (some 27) rfl rfl Try.func57 (by kernel_rfl) rfl #[.slice A1 l1.length c1] rfl (by (try simp only [List.map_toArray, List.map_cons, List.map_nil]); first | done | (go_simp; done) | rfl | (simp only [List.length_drop, List.length_take]; rfl)) ?_; (with_reducible refine (impl_sumsOf.calls k _ _ l1 t201 _ ?side1 ?side2 A9.out).mono ?_); (case side1 => repeat (first | exact (Kd.C_below HR1.out HB.out) | (with_reducible refine Kd.C_alloc ?_ _) | (with_reducible refine Kd.C_drewN ?_ _) | (with_reducible refine Kd.C_drew ?_))); (case side2 => exact HC1.out); rintro e w16 ⟨rfl, hb⟩; refine ⟨_, rfl, ?_⟩; have n0_ := Aside0.mk (Kd.R_below (by (with_reducible repeat (first | apply Kd.R_alloc | apply Kd.R_drewN | apply Kd.R_drew)); exact HO199.out) hb); have n1_ := Aside0.mk (below_step (by repeat (first | (with_reducible first | exact HB.out | apply below_alloc | apply pw_below_drewN | apply below_drew1) | exact HB.out)) hb); clear HO199; clear HB; have HO199 := n0_; have HB := n1_; clear n0_ n1_; (try clear hb); (try clear hb2); (try clear hk); (try clear hi)) | ((with_reducible refine gate_dst (N := 15) rfl ?_); refine box_event ?hg (N := 15) ?hd (cs := (⟨Arr.arL .i64 (Vector.replicate 256 0 : Vector Int 256)⟩ : Array Value)) (t := 70) ?hr ?_; (case hd => rfl); (case hg => rfl); (case hr => first | (go_simp; done) | (go_simp; rfl)); intro gb202 hg w17 hbox hb; have n0_ := Aside0.mk (Kd.R_below (by (with_reducible repeat (first | apply Kd.R_alloc | apply Kd.R_drewN | apply Kd.R_drew)); exact HO199.out) hb); have n1_ := Aside0.mk (below_step (by repeat (first | (with_reducible first | exact HB.out | apply below_alloc | apply pw_below_drewN | apply below_drew1) | exact HB.out)) hb); have n2_ := Aside0.mk (hbox); have n3_ := Aside0.mk ((by rw [hg]; exact (below_size (by repeat (first | (with_reducible first | exact HB.out | apply below_alloc | apply pw_below_drewN | apply below_drew1) | exact HB.out))) : w.heap.size ≤ gb202)); have n4_ := Aside0.mk ((by rw [hg]; exact (below_size (by repeat (first | (with_reducible first | exact HB.out | apply below_alloc | apply pw_below_drewN | apply below_drew1) | exact HB.out))) : w.heap.size ≤ gb202)); clear HO199; clear HB; have HO199 := n0_; have HB := n1_; have BK202 := n2_; have GW202 := n3_; have GE202 := n4_; clear n0_ n1_ n2_ n3_ n4_; clear hb hbox hg) | ((with_reducible refine gate_store (t := 70) (p := 15) rfl ?_); refine Arr.storeA ?hg (T := 70) (p := 15) (v := ?vo_w18) ?ho ?hn (g := gb202) (off := 0) ?hx (m := (Arr.arL .i64 t201)) ?hy (t := 70) (pre := []) (old := (Arr.arL .i64 (Vector.replicate 256 0 : Vector Int 256))) (show w17.heap[gb202]? = some (.cells (⟨Arr.arL .i64 (Vector.replicate 256 0 : Vector Int 256)⟩ : Array Value) 70 (0, 0)) from by (with_reducible repeat (first | refine blk_drewN ?_ _ | refine blk_drew ?_ | refine blk_alloc ?_ _)); exact BK202.out) rfl (by simp [Arr.arL_length]) (n := 256) (by kernel_rfl) (by simp [Arr.arL_length]) (Arr.ones_0 ) ?_; (case ho => rfl); (case hg => rfl); (case hn => rfl); (case hx => first | (go_simp; done) | rfl | (go_simp; rfl)); (case hy => first | (go_simp; done) | rfl | (go_simp; rfl)); intro w18 hbx hg hbe; replace hbx : w18.heap[gb202]? = some (.cells (⟨Arr.arL .i64 t201⟩ : Array Value) 70 (0, 0)) := hbx; have n0_ := Aside0.mk (Kd.R_grown1 (by (with_reducible repeat (first | apply Kd.R_alloc | apply Kd.R_drewN | apply Kd.R_drew)); exact HO199.out) rfl hg (Kd.R_ne HO199.out BK202.out (by decide))); have n1_ := Aside0.mk (hbx); have n2_ := Aside0.mk (hbe _ _ (by repeat (first | (with_reducible first | exact HB.out | apply below_alloc | apply pw_below_drewN | apply below_drew1 | refine below_set ?_ GE202.out) | exact HB.out)) GE202.out); clear HO199; clear BK202; clear HB; have HO199 := n0_; have BK202 := n1_; have HB := n2_; clear n0_ n1_ n2_; (try clear hbx hg hbe)))
    (try simp only [Act.put, List.setIfInBounds_toArray, List.set_cons_zero, List.set_cons_succ])
    go_cut [57] (fun v57 wc => ∃ (kq : Nat) (x57_10 : Bool), v57 = .bool x57_10 ∧ Aside0 (impl_PassDebt.j0 kq a2 a3 a4 a5 x57_10 t201 = some (r1, r2)) ∧ Aside0 (kq ≤ k) ∧ Aside0 (wc.heap[gb202]? = some (.cells (⟨Arr.arL .i64 t201⟩ : Array Value) 70 (0, 0))) ∧ Aside0 (Below w.heap.size w wc))
    case first =>
      have H := HC11.out
      clear HC11
      by_cases c19 : a2 = a3
      · rw [if_pos c19] at H
        have c19b0 : (a2 == a3) = true := beq_iff_eq.mpr c19
        have c19b1 : (a2 != a3) = false := bne_eq_false_iff_eq.mpr c19
        clear c19
        (first | rw [c19b0] | (simp only [i64_w, i32_w]; rw [c19b0]) | skip)
        have H' := Aside0.mk H
        clear H
        go_wp2
        go_meet
        case rel => exact ⟨_, (true), (by first | rfl | (simp; done) | (simp [*]; done)), H', ⟨by first | omega | exact Nat.le_refl _⟩, ⟨by (with_reducible repeat (first | refine blk_drewN ?_ _ | refine blk_drew ?_ | refine blk_alloc ?_ _)); exact BK202.out⟩, ⟨by repeat (first | (with_reducible first | exact HB.out | apply below_alloc | apply pw_below_drewN | apply below_drew1 | refine below_set ?_ GE202.out) | exact HB.out)⟩⟩
      · rw [if_neg c19] at H
        have c19b0 : (a2 == a3) = false := beq_eq_false_iff_ne.mpr c19
        have c19b1 : (a2 != a3) = true := bne_iff_ne.mpr c19
        (first | rw [c19b0] | (simp only [i64_w, i32_w]; rw [c19b0]) | skip)
        by_cases c20 : a3 = a4
        · rw [if_pos c20] at H
          have c20b0 : (a3 == a4) = true := beq_iff_eq.mpr c20
          have c20b1 : (a3 != a4) = false := bne_eq_false_iff_eq.mpr c20
          clear c20
          have H' := Aside0.mk H
          clear H
          go_wp2
          go_meet
          case rel => exact ⟨_, (true), (by first | rfl | (simp; done) | (simp [*]; done)), H', ⟨by first | omega | exact Nat.le_refl _⟩, ⟨by (with_reducible repeat (first | refine blk_drewN ?_ _ | refine blk_drew ?_ | refine blk_alloc ?_ _)); exact BK202.out⟩, ⟨by repeat (first | (with_reducible first | exact HB.out | apply below_alloc | apply pw_below_drewN | apply below_drew1 | refine below_set ?_ GE202.out) | exact HB.out)⟩⟩
        · rw [if_neg c20] at H
          have c20b0 : (a3 == a4) = false := beq_eq_false_iff_ne.mpr c20
          have c20b1 : (a3 != a4) = true := bne_iff_ne.mpr c20
          by_cases c21 : a5 < 1
          · rw [if_pos c21] at H
            have c21b0 : decide (a5 < 1) = true := decide_eq_true c21
            clear c21
            have H' := Aside0.mk H
            clear H
            go_wp2
            go_meet
            case rel => exact ⟨_, (true), (by first | rfl | (simp; done) | (simp [*]; done)), H', ⟨by first | omega | exact Nat.le_refl _⟩, ⟨by (with_reducible repeat (first | refine blk_drewN ?_ _ | refine blk_drew ?_ | refine blk_alloc ?_ _)); exact BK202.out⟩, ⟨by repeat (first | (with_reducible first | exact HB.out | apply below_alloc | apply pw_below_drewN | apply below_drew1 | refine below_set ?_ GE202.out) | exact HB.out)⟩⟩
          · rw [if_neg c21] at H
            have c21b0 : decide (a5 < 1) = false := decide_eq_false c21
            clear c21
            by_cases c22 : 0 ≤ a2
            · rw [if_pos c22] at H
              have c22b0 : decide (0 ≤ a2) = true := decide_eq_true c22
              clear c22
              by_cases c23 : a2 < 16
              · rw [if_pos c23] at H
                have c23b0 : decide (a2 < 16) = true := decide_eq_true c23
                clear c23
                by_cases c25 : 0 ≤ a3
                · rw [if_pos c25] at H
                  have c25b0 : decide (0 ≤ a3) = true := decide_eq_true c25
                  clear c25
                  by_cases c26 : a3 < 16
                  · rw [if_pos c26] at H
                    have c26b0 : decide (a3 < 16) = true := decide_eq_true c26
                    clear c26
                    by_cases c29 : a5 > (Arr.vrd2 16 t201 a2 a3)
                    · rw [if_pos c29] at H
                      have c29b0 : decide ((Arr.vrd2 16 t201 a2 a3) < a5) = true := decide_eq_true c29
                      clear c29
                      have H' := Aside0.mk H
                      clear H
                      have p24 : 0 ≤ (a2 : Int) := of_decide_eq_true (by first | (with_reducible assumption) | assumption)
                      have q24 : (a2 : Int) < 16 := of_decide_eq_true (by first | (with_reducible assumption) | assumption)
                      replace p24 := eq_true p24
                      replace q24 := eq_true q24
                      have p27 : 0 ≤ (a3 : Int) := of_decide_eq_true (by first | (with_reducible assumption) | assumption)
                      have q27 : (a3 : Int) < 16 := of_decide_eq_true (by first | (with_reducible assumption) | assumption)
                      replace p27 := eq_true p27
                      replace q27 := eq_true q27
                      have hx28 : w18.cell? ⟨gb202, a2.toNat * 16 + a3.toNat, none⟩ = some (.int .i64 (Arr.vrd2 16 t201 a2 a3)) := Arr.cellN (off := 0) (l := (Arr.arL .i64 t201)) (show w18.heap[gb202]? = some (.cells (⟨Arr.arL .i64 t201⟩ : Array Value) 70 (0, 0)) from by (with_reducible repeat (first | refine blk_drewN ?_ _ | refine blk_drew ?_ | refine blk_alloc ?_ _)); exact BK202.out) rfl (a2.toNat * 16 + a3.toNat) (a2.toNat * 16 + a3.toNat) (by omega) (by have a0_ := of_eq_true p24; have b0_ := of_eq_true q24; have a1_ := of_eq_true p27; have b1_ := of_eq_true q27; omega)
                      have hf28 := blk_frozen (show w18.heap[gb202]? = some (.cells (⟨Arr.arL .i64 t201⟩ : Array Value) 70 (0, 0)) from by (with_reducible repeat (first | refine blk_drewN ?_ _ | refine blk_drew ?_ | refine blk_alloc ?_ _)); exact BK202.out) (a2.toNat * 16 + a3.toNat)
                      go_wp2
                      go_meet
                      case rel => exact ⟨_, (true), (by first | rfl | (simp; done) | (simp [*]; done)), H', ⟨by first | omega | exact Nat.le_refl _⟩, ⟨by (with_reducible repeat (first | refine blk_drewN ?_ _ | refine blk_drew ?_ | refine blk_alloc ?_ _)); exact BK202.out⟩, ⟨by repeat (first | (with_reducible first | exact HB.out | apply below_alloc | apply pw_below_drewN | apply below_drew1 | refine below_set ?_ GE202.out) | exact HB.out)⟩⟩
                    · rw [if_neg c29] at H
                      have c29b0 : decide ((Arr.vrd2 16 t201 a2 a3) < a5) = false := decide_eq_false c29
                      clear c29
                      by_cases c31 : 0 ≤ a4
                      · rw [if_pos c31] at H
                        have c31b0 : decide (0 ≤ a4) = true := decide_eq_true c31
                        clear c31
                        by_cases c32 : a4 < 16
                        · rw [if_pos c32] at H
                          have c32b0 : decide (a4 < 16) = true := decide_eq_true c32
                          clear c32
                          have H' := Aside0.mk H
                          clear H
                          have p24 : 0 ≤ (a2 : Int) := of_decide_eq_true (by first | (with_reducible assumption) | assumption)
                          have q24 : (a2 : Int) < 16 := of_decide_eq_true (by first | (with_reducible assumption) | assumption)
                          replace p24 := eq_true p24
                          replace q24 := eq_true q24
                          have p27 : 0 ≤ (a3 : Int) := of_decide_eq_true (by first | (with_reducible assumption) | assumption)
                          have q27 : (a3 : Int) < 16 := of_decide_eq_true (by first | (with_reducible assumption) | assumption)
                          replace p27 := eq_true p27
                          replace q27 := eq_true q27
                          have hx28 : w18.cell? ⟨gb202, a2.toNat * 16 + a3.toNat, none⟩ = some (.int .i64 (Arr.vrd2 16 t201 a2 a3)) := Arr.cellN (off := 0) (l := (Arr.arL .i64 t201)) (show w18.heap[gb202]? = some (.cells (⟨Arr.arL .i64 t201⟩ : Array Value) 70 (0, 0)) from by (with_reducible repeat (first | refine blk_drewN ?_ _ | refine blk_drew ?_ | refine blk_alloc ?_ _)); exact BK202.out) rfl (a2.toNat * 16 + a3.toNat) (a2.toNat * 16 + a3.toNat) (by omega) (by have a0_ := of_eq_true p24; have b0_ := of_eq_true q24; have a1_ := of_eq_true p27; have b1_ := of_eq_true q27; omega)
                          have hf28 := blk_frozen (show w18.heap[gb202]? = some (.cells (⟨Arr.arL .i64 t201⟩ : Array Value) 70 (0, 0)) from by (with_reducible repeat (first | refine blk_drewN ?_ _ | refine blk_drew ?_ | refine blk_alloc ?_ _)); exact BK202.out) (a2.toNat * 16 + a3.toNat)
                          have p30 : 0 ≤ (a3 : Int) := of_decide_eq_true (by first | (with_reducible assumption) | assumption)
                          have q30 : (a3 : Int) < 16 := of_decide_eq_true (by first | (with_reducible assumption) | assumption)
                          replace p30 := eq_true p30
                          replace q30 := eq_true q30
                          have p33 : 0 ≤ (a4 : Int) := of_decide_eq_true (by first | (with_reducible assumption) | assumption)
                          have q33 : (a4 : Int) < 16 := of_decide_eq_true (by first | (with_reducible assumption) | assumption)
                          replace p33 := eq_true p33
                          replace q33 := eq_true q33
                          have hx34 : w18.cell? ⟨gb202, a3.toNat * 16 + a4.toNat, none⟩ = some (.int .i64 (Arr.vrd2 16 t201 a3 a4)) := Arr.cellN (off := 0) (l := (Arr.arL .i64 t201)) (show w18.heap[gb202]? = some (.cells (⟨Arr.arL .i64 t201⟩ : Array Value) 70 (0, 0)) from by (with_reducible repeat (first | refine blk_drewN ?_ _ | refine blk_drew ?_ | refine blk_alloc ?_ _)); exact BK202.out) rfl (a3.toNat * 16 + a4.toNat) (a3.toNat * 16 + a4.toNat) (by omega) (by have a0_ := of_eq_true p30; have b0_ := of_eq_true q30; have a1_ := of_eq_true p33; have b1_ := of_eq_true q33; omega)
                          have hf34 := blk_frozen (show w18.heap[gb202]? = some (.cells (⟨Arr.arL .i64 t201⟩ : Array Value) 70 (0, 0)) from by (with_reducible repeat (first | refine blk_drewN ?_ _ | refine blk_drew ?_ | refine blk_alloc ?_ _)); exact BK202.out) (a3.toNat * 16 + a4.toNat)
                          go_wp2
                          go_meet
                          case rel => exact ⟨_, (decide (a5 > (Arr.vrd2 16 t201 a3 a4))), (by first | rfl | (simp; done) | (simp [*]; done)), H', ⟨by first | omega | exact Nat.le_refl _⟩, ⟨by (with_reducible repeat (first | refine blk_drewN ?_ _ | refine blk_drew ?_ | refine blk_alloc ?_ _)); exact BK202.out⟩, ⟨by repeat (first | (with_reducible first | exact HB.out | apply below_alloc | apply pw_below_drewN | apply below_drew1 | refine below_set ?_ GE202.out) | exact HB.out)⟩⟩
                        · rw [if_neg c32] at H
                          exact absurd H (by simp)
                      · rw [if_neg c31] at H
                        exact absurd H (by simp)
                  · rw [if_neg c26] at H
                    exact absurd H (by simp)
                · rw [if_neg c25] at H
                  exact absurd H (by simp)
              · rw [if_neg c23] at H
                exact absurd H (by simp)
            · rw [if_neg c22] at H
              exact absurd H (by simp)
    case rest =>
      clear HC11
      try clear c1
      try clear c2
      try clear p2
      try clear q2
      try clear hx2
      try clear c3
      try clear p3
      try clear q3
      try clear hx3
      try clear c5
      try clear c8
      try clear c8b0
      try clear c8b1
      try clear c19
      try clear c19b0
      try clear c19b1
      try clear c20
      try clear c20b0
      try clear c20b1
      try clear c21
      try clear c21b0
      try clear c22
      try clear c22b0
      try clear c23
      try clear c23b0
      try clear p24
      try clear q24
      try clear c25
      try clear c25b0
      try clear c26
      try clear c26b0
      try clear p27
      try clear q27
      try clear hx28
      try clear hf28
      try clear c29
      try clear c29b0
      try clear p30
      try clear q30
      try clear c31
      try clear c31b0
      try clear c32
      try clear c32b0
      try clear p33
      try clear q33
      try clear hx34
      try clear hf34
      try clear p24
      try clear p27
      try clear p30
      try clear p33
      try clear q24
      try clear q27
      try clear q30
      try clear q33
      obtain ⟨kq, x57_10, rfl, HA, HJ10, BK202, HB⟩ := hcut
      cases kq with
      | zero => exact absurd HA.out (by simp [impl_PassDebt.j0])
      | succ kj10 =>
        have H := HA.out
        clear HA
        simp only [impl_PassDebt.j0] at H
        by_cases c35 : x57_10 = true
        · subst c35
          have H1 : (some (([] : List (S65)), 4)) = some (r1, r2) := by rw [if_pos rfl] at H; exact H
          clear H
          have H := H1
          clear H1
          simp only [Option.some.injEq, Prod.mk.injEq] at H
          obtain ⟨rfl, rfl⟩ := H
          go_wp2
          go_ret2
          exact ⟨_, by first | rfl | (simp [errW_none, errW_some] <;> rfl) | (simp [*, errW_none, errW_some] <;> rfl), by first | exact Kd.R_nil _ _ _ _ _ | exact Kd.N_nil _ _ _ _ _ | exact Kd.V_nil _ _ _ _ _ | exact Kd.Q_nil _ _ _ _ _ | exact Kd.S_nil _ _ _ _ _, by repeat (first | (with_reducible first | exact HB.out | apply below_alloc | apply pw_below_drewN | apply below_drew1 | refine below_set ?_ GE202.out) | exact HB.out)⟩
        · replace c35 := Bool.eq_false_iff.mpr c35
          subst c35
          have H1 : (if 0 ≤ a2 then (if a2 < 16 then (if 0 ≤ a3 then (if a3 < 16 then ((some (Arr.vst2 16 t201 a2 a3 (wrap64 ((Arr.vrd2 16 t201 a2 a3) - a5)) : Vector Int 256)).bind fun y203 => (if 0 ≤ a4 then (if a4 < 16 then ((some (Arr.vst2 16 y203 a3 a4 (wrap64 ((Arr.vrd2 16 y203 a3 a4) - a5)) : Vector Int 256)).bind fun y204 => (if a2 = a4 then ((impl_sums_debts.f kj10 y204).bind fun bt205 => (some (bt205.1, bt205.2))) else ((impl_sums_debts.f kj10 (Arr.vst2 16 y204 a2 a4 (wrap64 ((Arr.vrd2 16 y204 a2 a4) + a5)))).bind fun bt210 => (some (bt210.1, bt210.2))))) else (none)) else (none))) else (none)) else (none)) else (none)) else (none)) = some (r1, r2) := by rw [if_neg (show ¬ (false = true) by decide)] at H; exact H
          clear H
          have H := H1
          clear H1
          by_cases c36 : 0 ≤ a2
          · rw [if_pos c36] at H
            have c36b0 : decide (0 ≤ a2) = true := decide_eq_true c36
            clear c36
            by_cases c37 : a2 < 16
            · rw [if_pos c37] at H
              have c37b0 : decide (a2 < 16) = true := decide_eq_true c37
              clear c37
              by_cases c39 : 0 ≤ a3
              · rw [if_pos c39] at H
                have c39b0 : decide (0 ≤ a3) = true := decide_eq_true c39
                clear c39
                by_cases c40 : a3 < 16
                · rw [if_pos c40] at H
                  have c40b0 : decide (a3 < 16) = true := decide_eq_true c40
                  clear c40
                  obtain ⟨y203, hy203⟩ : ∃ y_ : Vector Int 256, y_ = (Arr.vst2 16 t201 a2 a3 (wrap64 ((Arr.vrd2 16 t201 a2 a3) - a5))) := ⟨_, rfl⟩
                  replace H : (if 0 ≤ a4 then (if a4 < 16 then ((some (Arr.vst2 16 y203 a3 a4 (wrap64 ((Arr.vrd2 16 y203 a3 a4) - a5)) : Vector Int 256)).bind fun y204 => (if a2 = a4 then ((impl_sums_debts.f kj10 y204).bind fun bt205 => (some (bt205.1, bt205.2))) else ((impl_sums_debts.f kj10 (Arr.vst2 16 y204 a2 a4 (wrap64 ((Arr.vrd2 16 y204 a2 a4) + a5)))).bind fun bt210 => (some (bt210.1, bt210.2))))) else (none)) else (none)) = some (r1, r2) := by first | (rw [hy203]; with_reducible exact H) | (have H2_ := (Option.bind_some _ _).symm.trans H; rw [hy203]; with_reducible exact H2_) | (have H2_ := (Option.bind_some _ _).symm.trans H; with_reducible exact H2_) | with_reducible exact H | (rw [hy203]; exact H) | exact H
                  have Ny203 := Aside0.mk hy203
                  clear hy203
                  by_cases c47 : 0 ≤ a4
                  · rw [if_pos c47] at H
                    have c47b0 : decide (0 ≤ a4) = true := decide_eq_true c47
                    clear c47
                    by_cases c48 : a4 < 16
                    · rw [if_pos c48] at H
                      have c48b0 : decide (a4 < 16) = true := decide_eq_true c48
                      clear c48
                      obtain ⟨y204, hy204⟩ : ∃ y_ : Vector Int 256, y_ = (Arr.vst2 16 y203 a3 a4 (wrap64 ((Arr.vrd2 16 y203 a3 a4) - a5))) := ⟨_, rfl⟩
                      replace H : (if a2 = a4 then ((impl_sums_debts.f kj10 y204).bind fun bt205 => (some (bt205.1, bt205.2))) else ((impl_sums_debts.f kj10 (Arr.vst2 16 y204 a2 a4 (wrap64 ((Arr.vrd2 16 y204 a2 a4) + a5)))).bind fun bt210 => (some (bt210.1, bt210.2)))) = some (r1, r2) := by first | (rw [hy204]; with_reducible exact H) | (have H2_ := (Option.bind_some _ _).symm.trans H; rw [hy204]; with_reducible exact H2_) | (have H2_ := (Option.bind_some _ _).symm.trans H; with_reducible exact H2_) | with_reducible exact H | (rw [hy204]; exact H) | exact H
                      have Ny204 := Aside0.mk hy204
                      clear hy204
                      by_cases c54 : a2 = a4
                      · rw [if_pos c54] at H
                        have c54b0 : (a2 == a4) = true := beq_iff_eq.mpr c54
                        have c54b1 : (a2 != a4) = false := bne_eq_false_iff_eq.mpr c54
                        clear c54
                        replace H := Option.bind_eq_some_iff.mp H
                        obtain ⟨⟨t205, t208⟩, A560, H⟩ := H
                        replace H : (some (t205, t208)) = some (r1, r2) := H
                        have A56 := Aside0.mk A560
                        clear A560
                        simp only [Option.some.injEq, Prod.mk.injEq] at H
                        obtain ⟨rfl, rfl⟩ := H
                        try go_wp2
                        have n0_ := Aside0.mk (blk_drew BK202.out)
                        have n1_ := Aside0.mk (below_drew1 HB.out)
                        clear BK202
                        clear HB
                        have BK202 := n0_
                        have HB := n1_
                        clear n0_ n1_
                        have p38 : 0 ≤ (a2 : Int) := of_decide_eq_true (by first | (with_reducible assumption) | assumption)
                        have q38 : (a2 : Int) < 16 := of_decide_eq_true (by first | (with_reducible assumption) | assumption)
                        replace p38 := eq_true p38
                        replace q38 := eq_true q38
                        have p41 : 0 ≤ (a3 : Int) := of_decide_eq_true (by first | (with_reducible assumption) | assumption)
                        have q41 : (a3 : Int) < 16 := of_decide_eq_true (by first | (with_reducible assumption) | assumption)
                        replace p41 := eq_true p41
                        replace q41 := eq_true q41
                        have p43 : 0 ≤ (a2 : Int) := of_decide_eq_true (by first | (with_reducible assumption) | assumption)
                        have q43 : (a2 : Int) < 16 := of_decide_eq_true (by first | (with_reducible assumption) | assumption)
                        replace p43 := eq_true p43
                        replace q43 := eq_true q43
                        have p44 : 0 ≤ (a3 : Int) := of_decide_eq_true (by first | (with_reducible assumption) | assumption)
                        have q44 : (a3 : Int) < 16 := of_decide_eq_true (by first | (with_reducible assumption) | assumption)
                        replace p44 := eq_true p44
                        replace q44 := eq_true q44
                        refine start_ (n := 10) (S := fun w' => w'.cell? ⟨gb202, a2.toNat * 16 + a3.toNat, none⟩ = some (.int .i64 (Arr.vrd2 16 t201 a2 a3))) (ds := [9]) #[false, false, false, false, false, false, false, false, false, false] (by kernel_rfl) rfl rfl ((Arr.cellN (off := 0) (l := (Arr.arL .i64 t201)) (BK202.out) rfl (a2.toNat * 16 + a3.toNat) (a2.toNat * 16 + a3.toNat) (by omega) (by have a0_ := of_eq_true p38; have b0_ := of_eq_true q38; have a1_ := of_eq_true p41; have b1_ := of_eq_true q41; omega))) (fun hHeld => ?_); refine with_tabW impl_PassDebt.tab7 impl_PassDebt.bits7 (fun HT_ HW_ => ?_)
                        generalize wc.drew = w57 at BK202 HB hHeld ⊢
                        refine pure_ (i := 0) (N := some 58) (v := ?_) (a' := ?_) #[true, false, false, false, false, false, false, false, false, false] rfl rfl (any_of HT_.out (by kernel_rfl)) (fun _ _ _ h => h) (Or.inl ⟨by rfl, ?_⟩) ?_ ?_
                        rotate_left
                        · intro w'
                          go_simp
                          with_reducible rfl
                        rotate_left
                        · simp only [Act.put, List.setIfInBounds_toArray, List.set_cons_zero, List.set_cons_succ, i64_w, i32_w]
                          rfl
                        refine pure_ (i := 1) (N := some 59) (v := ?_) (a' := ?_) #[true, true, false, false, false, false, false, false, false, false] rfl rfl (any_of HT_.out (by kernel_rfl)) (fun _ _ _ h => h) (Or.inl ⟨by rfl, ?_⟩) ?_ ?_
                        rotate_left
                        · intro w'
                          go_simp
                          with_reducible rfl
                        rotate_left
                        · simp only [Act.put, List.setIfInBounds_toArray, List.set_cons_zero, List.set_cons_succ, i64_w, i32_w]
                          rfl
                        refine pure_ (i := 2) (N := some 60) (v := ?_) (a' := ?_) #[true, true, true, false, false, false, false, false, false, false] rfl rfl (any_of HT_.out (by kernel_rfl)) (fun _ _ _ h => h) (Or.inl ⟨by rfl, ?_⟩) ?_ ?_
                        rotate_left
                        · intro w'
                          go_simp
                          with_reducible rfl
                        rotate_left
                        · simp only [Act.put, List.setIfInBounds_toArray, List.set_cons_zero, List.set_cons_succ, i64_w, i32_w]
                          rfl
                        refine pure_ (i := 3) (N := some 61) (v := ?_) (a' := ?_) #[true, true, true, true, false, false, false, false, false, false] rfl rfl (any_of HT_.out (by kernel_rfl)) (fun _ _ _ h => h) (Or.inl ⟨by rfl, ?_⟩) ?_ ?_
                        rotate_left
                        · intro w'
                          go_simp
                          with_reducible rfl
                        rotate_left
                        · simp only [Act.put, List.setIfInBounds_toArray, List.set_cons_zero, List.set_cons_succ, i64_w, i32_w]
                          rfl
                        refine pure_ (i := 5) (N := some 63) (v := ?_) (a' := ?_) #[true, true, true, true, false, true, false, false, false, false] rfl rfl (any_of HT_.out (by kernel_rfl)) (fun _ _ _ h => h) (Or.inl ⟨by rfl, ?_⟩) ?_ ?_
                        rotate_left
                        · intro w'
                          go_simp
                          with_reducible rfl
                        rotate_left
                        · simp only [Act.put, List.setIfInBounds_toArray, List.set_cons_zero, List.set_cons_succ, i64_w, i32_w]
                          rfl
                        refine pure_ (i := 7) (N := some 65) (v := ?_) (a' := ?_) #[true, true, true, true, false, true, false, true, false, false] rfl rfl (any_of HT_.out (by kernel_rfl)) (fun _ _ _ h => h) (Or.inl ⟨by rfl, ?_⟩) ?_ ?_
                        rotate_left
                        · intro w'
                          go_simp
                          with_reducible rfl
                        rotate_left
                        · simp only [Act.put, List.setIfInBounds_toArray, List.set_cons_zero, List.set_cons_succ, i64_w, i32_w]
                          rfl
                        refine take_ (i := 4) (N := some 62) (v := ?_) (a' := ?_) #[true, true, true, true, true, true, false, true, false, false] rfl rfl (take_ofW HT_.out HW_.out (by kernel_rfl)) (fun _ _ _ h => h) (Or.inl ⟨by rfl, ?_⟩) hHeld ?_ ?_
                        rotate_left
                        · intro w' s0
                          go_simp
                          with_reducible rfl
                        rotate_left
                        · simp only [Act.put, List.setIfInBounds_toArray, List.set_cons_zero, List.set_cons_succ, i64_w, i32_w]
                          rfl
                        refine pure_ (i := 6) (N := some 64) (v := ?_) (a' := ?_) #[true, true, true, true, true, true, true, true, false, false] rfl rfl (any_of HT_.out (by kernel_rfl)) (fun _ _ _ h => h) (Or.inl ⟨by rfl, ?_⟩) ?_ ?_
                        rotate_left
                        · intro w'
                          go_simp
                          with_reducible rfl
                        rotate_left
                        · simp only [Act.put, List.setIfInBounds_toArray, List.set_cons_zero, List.set_cons_succ, i64_w, i32_w]
                          rfl
                        refine pure_ (i := 8) (N := some 66) (v := ?_) (a' := ?_) #[true, true, true, true, true, true, true, true, true, false] rfl rfl (any_of HT_.out (by kernel_rfl)) (fun _ _ _ h => h) (Or.inl ⟨by rfl, ?_⟩) ?_ ?_
                        rotate_left
                        · intro w'
                          go_simp
                          with_reducible rfl
                        rotate_left
                        · simp only [Act.put, List.setIfInBounds_toArray, List.set_cons_zero, List.set_cons_succ, i64_w, i32_w]
                          rfl
                        refine last_ (i := 9) (N := none) #[true, true, true, true, true, true, true, true, true, true] rfl rfl (one_of HT_.out (by kernel_rfl)) (by decide) (fun K hK => ?_)
                        have hx45 : w57.cell? ⟨gb202, a2.toNat * 16 + a3.toNat, none⟩ = some (.int .i64 (Arr.vrd2 16 t201 a2 a3)) := Arr.cellN (off := 0) (l := (Arr.arL .i64 t201)) (show w57.heap[gb202]? = some (.cells (⟨Arr.arL .i64 t201⟩ : Array Value) 70 (0, 0)) from by (with_reducible repeat (first | refine blk_drewN ?_ _ | refine blk_drew ?_ | refine blk_alloc ?_ _)); exact BK202.out) rfl (a2.toNat * 16 + a3.toNat) (a2.toNat * 16 + a3.toNat) (by omega) (by have a0_ := of_eq_true p43; have b0_ := of_eq_true q43; have a1_ := of_eq_true p44; have b1_ := of_eq_true q44; omega)
                        have hf45 := blk_frozen (show w57.heap[gb202]? = some (.cells (⟨Arr.arL .i64 t201⟩ : Array Value) 70 (0, 0)) from by (with_reducible repeat (first | refine blk_drewN ?_ _ | refine blk_drew ?_ | refine blk_alloc ?_ _)); exact BK202.out) (a2.toNat * 16 + a3.toNat)
                        refine skip_ (w1 := w57.setCell ⟨gb202, a2.toNat * 16 + a3.toNat, none⟩ (.int .i64 (wrap64 ((Arr.vrd2 16 t201 a2 a3) - a5)))) (by rfl) rfl ?_ ?_
                        · first | (go_simp; done) | (go_simp; rfl)
                        refine hK.out _ _ ?_
                        clear hK K
                        refine done_ (done_of HT_.out (by kernel_rfl)) ?_
                        obtain ⟨w58, hw_, hbx, hg, hbe⟩ := Arr.stored_at (g := gb202) (off := 0) (m := a2.toNat * 16 + a3.toNat) (n := a2.toNat * 16 + a3.toNat) (k := .i64) (y := (wrap64 ((Arr.vrd2 16 t201 a2 a3) - a5))) (x := t201) (t := 70) (pre := []) (show w57.heap[gb202]? = some (.cells (⟨Arr.arL .i64 t201⟩ : Array Value) 70 (0, 0)) from by (with_reducible repeat (first | refine blk_drewN ?_ _ | refine blk_drew ?_ | refine blk_alloc ?_ _)); exact BK202.out) rfl (by omega)
                        rw [hw_]
                        clear hw_
                        replace hbx : w58.heap[gb202]? = some (.cells (⟨Arr.arL .i64 y203⟩ : Array Value) 70 (0, 0)) := (by rw [Ny203.out]; exact hbx)
                        have n0_ := Aside0.mk (hbx)
                        have n1_ := Aside0.mk (hbe _ _ (by repeat (first | (with_reducible first | exact HB.out | apply below_alloc | apply pw_below_drewN | apply below_drew1 | refine below_set ?_ GE202.out) | exact HB.out)) GE202.out)
                        clear BK202
                        clear HB
                        have BK202 := n0_
                        have HB := n1_
                        clear n0_ n1_
                        (try clear hbx hg hbe)
                        try go_wp2
                        have n0_ := Aside0.mk (blk_drew BK202.out)
                        have n1_ := Aside0.mk (below_drew1 HB.out)
                        clear BK202
                        clear HB
                        have BK202 := n0_
                        have HB := n1_
                        clear n0_ n1_
                        have p46 : 0 ≤ (a3 : Int) := of_decide_eq_true (by first | (with_reducible assumption) | assumption)
                        have q46 : (a3 : Int) < 16 := of_decide_eq_true (by first | (with_reducible assumption) | assumption)
                        replace p46 := eq_true p46
                        replace q46 := eq_true q46
                        have p49 : 0 ≤ (a4 : Int) := of_decide_eq_true (by first | (with_reducible assumption) | assumption)
                        have q49 : (a4 : Int) < 16 := of_decide_eq_true (by first | (with_reducible assumption) | assumption)
                        replace p49 := eq_true p49
                        replace q49 := eq_true q49
                        have p51 : 0 ≤ (a3 : Int) := of_decide_eq_true (by first | (with_reducible assumption) | assumption)
                        have q51 : (a3 : Int) < 16 := of_decide_eq_true (by first | (with_reducible assumption) | assumption)
                        replace p51 := eq_true p51
                        replace q51 := eq_true q51
                        have p52 : 0 ≤ (a4 : Int) := of_decide_eq_true (by first | (with_reducible assumption) | assumption)
                        have q52 : (a4 : Int) < 16 := of_decide_eq_true (by first | (with_reducible assumption) | assumption)
                        replace p52 := eq_true p52
                        replace q52 := eq_true q52
                        refine start_ (n := 10) (S := fun w' => w'.cell? ⟨gb202, a3.toNat * 16 + a4.toNat, none⟩ = some (.int .i64 (Arr.vrd2 16 y203 a3 a4))) (ds := [9]) #[false, false, false, false, false, false, false, false, false, false] (by kernel_rfl) rfl rfl ((Arr.cellN (off := 0) (l := (Arr.arL .i64 y203)) (BK202.out) rfl (a3.toNat * 16 + a4.toNat) (a3.toNat * 16 + a4.toNat) (by omega) (by have a0_ := of_eq_true p46; have b0_ := of_eq_true q46; have a1_ := of_eq_true p49; have b1_ := of_eq_true q49; omega))) (fun hHeld => ?_); refine with_tabW impl_PassDebt.tab8 impl_PassDebt.bits8 (fun HT_ HW_ => ?_)
                        generalize w58.drew = w59 at BK202 HB hHeld ⊢
                        refine pure_ (i := 0) (N := some 67) (v := ?_) (a' := ?_) #[true, false, false, false, false, false, false, false, false, false] rfl rfl (any_of HT_.out (by kernel_rfl)) (fun _ _ _ h => h) (Or.inl ⟨by rfl, ?_⟩) ?_ ?_
                        rotate_left
                        · intro w'
                          go_simp
                          with_reducible rfl
                        rotate_left
                        · simp only [Act.put, List.setIfInBounds_toArray, List.set_cons_zero, List.set_cons_succ, i64_w, i32_w]
                          rfl
                        refine pure_ (i := 1) (N := some 68) (v := ?_) (a' := ?_) #[true, true, false, false, false, false, false, false, false, false] rfl rfl (any_of HT_.out (by kernel_rfl)) (fun _ _ _ h => h) (Or.inl ⟨by rfl, ?_⟩) ?_ ?_
                        rotate_left
                        · intro w'
                          go_simp
                          with_reducible rfl
                        rotate_left
                        · simp only [Act.put, List.setIfInBounds_toArray, List.set_cons_zero, List.set_cons_succ, i64_w, i32_w]
                          rfl
                        refine pure_ (i := 2) (N := some 69) (v := ?_) (a' := ?_) #[true, true, true, false, false, false, false, false, false, false] rfl rfl (any_of HT_.out (by kernel_rfl)) (fun _ _ _ h => h) (Or.inl ⟨by rfl, ?_⟩) ?_ ?_
                        rotate_left
                        · intro w'
                          go_simp
                          with_reducible rfl
                        rotate_left
                        · simp only [Act.put, List.setIfInBounds_toArray, List.set_cons_zero, List.set_cons_succ, i64_w, i32_w]
                          rfl
                        refine pure_ (i := 3) (N := some 70) (v := ?_) (a' := ?_) #[true, true, true, true, false, false, false, false, false, false] rfl rfl (any_of HT_.out (by kernel_rfl)) (fun _ _ _ h => h) (Or.inl ⟨by rfl, ?_⟩) ?_ ?_
                        rotate_left
                        · intro w'
                          go_simp
                          with_reducible rfl
                        rotate_left
                        · simp only [Act.put, List.setIfInBounds_toArray, List.set_cons_zero, List.set_cons_succ, i64_w, i32_w]
                          rfl
                        refine pure_ (i := 5) (N := some 72) (v := ?_) (a' := ?_) #[true, true, true, true, false, true, false, false, false, false] rfl rfl (any_of HT_.out (by kernel_rfl)) (fun _ _ _ h => h) (Or.inl ⟨by rfl, ?_⟩) ?_ ?_
                        rotate_left
                        · intro w'
                          go_simp
                          with_reducible rfl
                        rotate_left
                        · simp only [Act.put, List.setIfInBounds_toArray, List.set_cons_zero, List.set_cons_succ, i64_w, i32_w]
                          rfl
                        refine pure_ (i := 7) (N := some 74) (v := ?_) (a' := ?_) #[true, true, true, true, false, true, false, true, false, false] rfl rfl (any_of HT_.out (by kernel_rfl)) (fun _ _ _ h => h) (Or.inl ⟨by rfl, ?_⟩) ?_ ?_
                        rotate_left
                        · intro w'
                          go_simp
                          with_reducible rfl
                        rotate_left
                        · simp only [Act.put, List.setIfInBounds_toArray, List.set_cons_zero, List.set_cons_succ, i64_w, i32_w]
                          rfl
                        refine take_ (i := 4) (N := some 71) (v := ?_) (a' := ?_) #[true, true, true, true, true, true, false, true, false, false] rfl rfl (take_ofW HT_.out HW_.out (by kernel_rfl)) (fun _ _ _ h => h) (Or.inl ⟨by rfl, ?_⟩) hHeld ?_ ?_
                        rotate_left
                        · intro w' s0
                          go_simp
                          with_reducible rfl
                        rotate_left
                        · simp only [Act.put, List.setIfInBounds_toArray, List.set_cons_zero, List.set_cons_succ, i64_w, i32_w]
                          rfl
                        refine pure_ (i := 6) (N := some 73) (v := ?_) (a' := ?_) #[true, true, true, true, true, true, true, true, false, false] rfl rfl (any_of HT_.out (by kernel_rfl)) (fun _ _ _ h => h) (Or.inl ⟨by rfl, ?_⟩) ?_ ?_
                        rotate_left
                        · intro w'
                          go_simp
                          with_reducible rfl
                        rotate_left
                        · simp only [Act.put, List.setIfInBounds_toArray, List.set_cons_zero, List.set_cons_succ, i64_w, i32_w]
                          rfl
                        refine pure_ (i := 8) (N := some 75) (v := ?_) (a' := ?_) #[true, true, true, true, true, true, true, true, true, false] rfl rfl (any_of HT_.out (by kernel_rfl)) (fun _ _ _ h => h) (Or.inl ⟨by rfl, ?_⟩) ?_ ?_
                        rotate_left
                        · intro w'
                          go_simp
                          with_reducible rfl
                        rotate_left
                        · simp only [Act.put, List.setIfInBounds_toArray, List.set_cons_zero, List.set_cons_succ, i64_w, i32_w]
                          rfl
                        refine last_ (i := 9) (N := none) #[true, true, true, true, true, true, true, true, true, true] rfl rfl (one_of HT_.out (by kernel_rfl)) (by decide) (fun K hK => ?_)
                        have hx53 : w59.cell? ⟨gb202, a3.toNat * 16 + a4.toNat, none⟩ = some (.int .i64 (Arr.vrd2 16 y203 a3 a4)) := Arr.cellN (off := 0) (l := (Arr.arL .i64 y203)) (show w59.heap[gb202]? = some (.cells (⟨Arr.arL .i64 y203⟩ : Array Value) 70 (0, 0)) from by (with_reducible repeat (first | refine blk_drewN ?_ _ | refine blk_drew ?_ | refine blk_alloc ?_ _)); exact BK202.out) rfl (a3.toNat * 16 + a4.toNat) (a3.toNat * 16 + a4.toNat) (by omega) (by have a0_ := of_eq_true p51; have b0_ := of_eq_true q51; have a1_ := of_eq_true p52; have b1_ := of_eq_true q52; omega)
                        have hf53 := blk_frozen (show w59.heap[gb202]? = some (.cells (⟨Arr.arL .i64 y203⟩ : Array Value) 70 (0, 0)) from by (with_reducible repeat (first | refine blk_drewN ?_ _ | refine blk_drew ?_ | refine blk_alloc ?_ _)); exact BK202.out) (a3.toNat * 16 + a4.toNat)
                        refine skip_ (w1 := w59.setCell ⟨gb202, a3.toNat * 16 + a4.toNat, none⟩ (.int .i64 (wrap64 ((Arr.vrd2 16 y203 a3 a4) - a5)))) (by rfl) rfl ?_ ?_
                        · first | (go_simp; done) | (go_simp; rfl)
                        refine hK.out _ _ ?_
                        clear hK K
                        refine done_ (done_of HT_.out (by kernel_rfl)) ?_
                        obtain ⟨w60, hw_, hbx, hg, hbe⟩ := Arr.stored_at (g := gb202) (off := 0) (m := a3.toNat * 16 + a4.toNat) (n := a3.toNat * 16 + a4.toNat) (k := .i64) (y := (wrap64 ((Arr.vrd2 16 y203 a3 a4) - a5))) (x := y203) (t := 70) (pre := []) (show w59.heap[gb202]? = some (.cells (⟨Arr.arL .i64 y203⟩ : Array Value) 70 (0, 0)) from by (with_reducible repeat (first | refine blk_drewN ?_ _ | refine blk_drew ?_ | refine blk_alloc ?_ _)); exact BK202.out) rfl (by omega)
                        rw [hw_]
                        clear hw_
                        replace hbx : w60.heap[gb202]? = some (.cells (⟨Arr.arL .i64 y204⟩ : Array Value) 70 (0, 0)) := (by rw [Ny204.out]; exact hbx)
                        have n0_ := Aside0.mk (hbx)
                        have n1_ := Aside0.mk (hbe _ _ (by repeat (first | (with_reducible first | exact HB.out | apply below_alloc | apply pw_below_drewN | apply below_drew1 | refine below_set ?_ GE202.out) | exact HB.out)) GE202.out)
                        clear BK202
                        clear HB
                        have BK202 := n0_
                        have HB := n1_
                        clear n0_ n1_
                        (try clear hbx hg hbe)
                        try go_wp2_with (first | ((with_reducible refine Arr.gate_load (t := 70) (p := 15) rfl ?_); (try (refine gate_guard (by rfl) ?_; dsimp only)); refine Arr.loadA ?hg (T := 70) (p := 15) ?ho (g := gb202) (off := 0) ?hx (t := 70) (l := (Arr.arL .i64 y204)) (m := (Arr.arL .i64 y204)) (fr := (0, 0)) (show w60.heap[gb202]? = some (.cells (⟨Arr.arL .i64 y204⟩ : Array Value) 70 (0, 0)) from by (with_reducible repeat (first | refine blk_drewN ?_ _ | refine blk_drew ?_ | refine blk_alloc ?_ _)); exact BK202.out) rfl Try.underlying70 rfl (n := 256) (by kernel_rfl) (by simp [Arr.arL_length]) ?_; (case hg => rfl); (case ho => rfl); (case hx => first | (go_simp; done) | rfl | (go_simp; rfl))) | ((with_reducible refine gate_callee (f := 62) rfl ?_); refine goesL_ (some 89) rfl rfl Try.func62 (by kernel_rfl) rfl #[.agg (⟨Arr.arL .i64 y204⟩ : Array Value)] rfl (by (try simp only [List.map_toArray, List.map_cons, List.map_nil]); first | done | (go_simp; done) | rfl | (simp only [List.length_drop, List.length_take]; rfl)) ?_; (with_reducible refine (impl_sums_debts.calls kj10 y204 t205 t208 _ A56.out).mono ?_); rintro e w61 ⟨v206, rfl, ho0, hb⟩; refine ⟨_, rfl, ?_⟩; have n0_ := Aside0.mk (Kd.R_lower ho0 (below_size (by repeat (first | (with_reducible first | exact HB.out | apply below_alloc | apply pw_below_drewN | apply below_drew1 | refine below_set ?_ GE202.out) | exact HB.out)))); have n1_ := Aside0.mk (blk_below (g := gb202) (o := .cells (⟨Arr.arL .i64 y204⟩ : Array Value) 70 (0, 0)) (by (with_reducible repeat (first | refine blk_drewN ?_ _ | refine blk_drew ?_ | refine blk_alloc ?_ _)); exact BK202.out) hb); have n2_ := Aside0.mk (below_step (by repeat (first | (with_reducible first | exact HB.out | apply below_alloc | apply pw_below_drewN | apply below_drew1 | refine below_set ?_ GE202.out) | exact HB.out)) hb); clear BK202; clear HB; have HO207 := n0_; have BK202 := n1_; have HB := n2_; clear n0_ n1_ n2_; (try clear hb); (try clear hb2); (try clear hk); (try clear hi); (try clear ho0)))
                        go_ret2
                        exact ⟨_, by first | rfl | (simp [errW_none, errW_some] <;> rfl) | (simp [*, errW_none, errW_some] <;> rfl), by (with_reducible repeat (first | apply Kd.R_alloc | apply Kd.R_drewN | apply Kd.R_drew)); exact HO207.out, by repeat (first | (with_reducible first | exact HB.out | apply below_alloc | apply pw_below_drewN | apply below_drew1 | refine below_set ?_ GE202.out) | exact HB.out)⟩
                      · rw [if_neg c54] at H
                        have c54b0 : (a2 == a4) = false := beq_eq_false_iff_ne.mpr c54
                        have c54b1 : (a2 != a4) = true := bne_iff_ne.mpr c54
                        obtain ⟨y209, hy209⟩ : ∃ y_ : Vector Int 256, y_ = (Arr.vst2 16 y204 a2 a4 (wrap64 ((Arr.vrd2 16 y204 a2 a4) + a5))) := ⟨_, rfl⟩
                        replace H : ((impl_sums_debts.f kj10 y209).bind fun bt210 => (some (bt210.1, bt210.2))) = some (r1, r2) := by first | (rw [hy209]; with_reducible exact H) | (have H2_ := (Option.bind_some _ _).symm.trans H; rw [hy209]; with_reducible exact H2_) | (have H2_ := (Option.bind_some _ _).symm.trans H; with_reducible exact H2_) | with_reducible exact H | (rw [hy209]; exact H) | exact H
                        have Ny209 := Aside0.mk hy209
                        clear hy209
                        replace H := Option.bind_eq_some_iff.mp H
                        obtain ⟨⟨t210, t213⟩, A690, H⟩ := H
                        replace H : (some (t210, t213)) = some (r1, r2) := H
                        have A69 := Aside0.mk A690
                        clear A690
                        simp only [Option.some.injEq, Prod.mk.injEq] at H
                        obtain ⟨rfl, rfl⟩ := H
                        try go_wp2
                        have n0_ := Aside0.mk (blk_drew BK202.out)
                        have n1_ := Aside0.mk (below_drew1 HB.out)
                        clear BK202
                        clear HB
                        have BK202 := n0_
                        have HB := n1_
                        clear n0_ n1_
                        have p38 : 0 ≤ (a2 : Int) := of_decide_eq_true (by first | (with_reducible assumption) | assumption)
                        have q38 : (a2 : Int) < 16 := of_decide_eq_true (by first | (with_reducible assumption) | assumption)
                        replace p38 := eq_true p38
                        replace q38 := eq_true q38
                        have p41 : 0 ≤ (a3 : Int) := of_decide_eq_true (by first | (with_reducible assumption) | assumption)
                        have q41 : (a3 : Int) < 16 := of_decide_eq_true (by first | (with_reducible assumption) | assumption)
                        replace p41 := eq_true p41
                        replace q41 := eq_true q41
                        have p43 : 0 ≤ (a2 : Int) := of_decide_eq_true (by first | (with_reducible assumption) | assumption)
                        have q43 : (a2 : Int) < 16 := of_decide_eq_true (by first | (with_reducible assumption) | assumption)
                        replace p43 := eq_true p43
                        replace q43 := eq_true q43
                        have p44 : 0 ≤ (a3 : Int) := of_decide_eq_true (by first | (with_reducible assumption) | assumption)
                        have q44 : (a3 : Int) < 16 := of_decide_eq_true (by first | (with_reducible assumption) | assumption)
                        replace p44 := eq_true p44
                        replace q44 := eq_true q44
                        refine start_ (n := 10) (S := fun w' => w'.cell? ⟨gb202, a2.toNat * 16 + a3.toNat, none⟩ = some (.int .i64 (Arr.vrd2 16 t201 a2 a3))) (ds := [9]) #[false, false, false, false, false, false, false, false, false, false] (by kernel_rfl) rfl rfl ((Arr.cellN (off := 0) (l := (Arr.arL .i64 t201)) (BK202.out) rfl (a2.toNat * 16 + a3.toNat) (a2.toNat * 16 + a3.toNat) (by omega) (by have a0_ := of_eq_true p38; have b0_ := of_eq_true q38; have a1_ := of_eq_true p41; have b1_ := of_eq_true q41; omega))) (fun hHeld => ?_); refine with_tabW impl_PassDebt.tab7 impl_PassDebt.bits7 (fun HT_ HW_ => ?_)
                        generalize wc.drew = w70 at BK202 HB hHeld ⊢
                        refine pure_ (i := 0) (N := some 58) (v := ?_) (a' := ?_) #[true, false, false, false, false, false, false, false, false, false] rfl rfl (any_of HT_.out (by kernel_rfl)) (fun _ _ _ h => h) (Or.inl ⟨by rfl, ?_⟩) ?_ ?_
                        rotate_left
                        · intro w'
                          go_simp
                          with_reducible rfl
                        rotate_left
                        · simp only [Act.put, List.setIfInBounds_toArray, List.set_cons_zero, List.set_cons_succ, i64_w, i32_w]
                          rfl
                        refine pure_ (i := 1) (N := some 59) (v := ?_) (a' := ?_) #[true, true, false, false, false, false, false, false, false, false] rfl rfl (any_of HT_.out (by kernel_rfl)) (fun _ _ _ h => h) (Or.inl ⟨by rfl, ?_⟩) ?_ ?_
                        rotate_left
                        · intro w'
                          go_simp
                          with_reducible rfl
                        rotate_left
                        · simp only [Act.put, List.setIfInBounds_toArray, List.set_cons_zero, List.set_cons_succ, i64_w, i32_w]
                          rfl
                        refine pure_ (i := 2) (N := some 60) (v := ?_) (a' := ?_) #[true, true, true, false, false, false, false, false, false, false] rfl rfl (any_of HT_.out (by kernel_rfl)) (fun _ _ _ h => h) (Or.inl ⟨by rfl, ?_⟩) ?_ ?_
                        rotate_left
                        · intro w'
                          go_simp
                          with_reducible rfl
                        rotate_left
                        · simp only [Act.put, List.setIfInBounds_toArray, List.set_cons_zero, List.set_cons_succ, i64_w, i32_w]
                          rfl
                        refine pure_ (i := 3) (N := some 61) (v := ?_) (a' := ?_) #[true, true, true, true, false, false, false, false, false, false] rfl rfl (any_of HT_.out (by kernel_rfl)) (fun _ _ _ h => h) (Or.inl ⟨by rfl, ?_⟩) ?_ ?_
                        rotate_left
                        · intro w'
                          go_simp
                          with_reducible rfl
                        rotate_left
                        · simp only [Act.put, List.setIfInBounds_toArray, List.set_cons_zero, List.set_cons_succ, i64_w, i32_w]
                          rfl
                        refine pure_ (i := 5) (N := some 63) (v := ?_) (a' := ?_) #[true, true, true, true, false, true, false, false, false, false] rfl rfl (any_of HT_.out (by kernel_rfl)) (fun _ _ _ h => h) (Or.inl ⟨by rfl, ?_⟩) ?_ ?_
                        rotate_left
                        · intro w'
                          go_simp
                          with_reducible rfl
                        rotate_left
                        · simp only [Act.put, List.setIfInBounds_toArray, List.set_cons_zero, List.set_cons_succ, i64_w, i32_w]
                          rfl
                        refine pure_ (i := 7) (N := some 65) (v := ?_) (a' := ?_) #[true, true, true, true, false, true, false, true, false, false] rfl rfl (any_of HT_.out (by kernel_rfl)) (fun _ _ _ h => h) (Or.inl ⟨by rfl, ?_⟩) ?_ ?_
                        rotate_left
                        · intro w'
                          go_simp
                          with_reducible rfl
                        rotate_left
                        · simp only [Act.put, List.setIfInBounds_toArray, List.set_cons_zero, List.set_cons_succ, i64_w, i32_w]
                          rfl
                        refine take_ (i := 4) (N := some 62) (v := ?_) (a' := ?_) #[true, true, true, true, true, true, false, true, false, false] rfl rfl (take_ofW HT_.out HW_.out (by kernel_rfl)) (fun _ _ _ h => h) (Or.inl ⟨by rfl, ?_⟩) hHeld ?_ ?_
                        rotate_left
                        · intro w' s0
                          go_simp
                          with_reducible rfl
                        rotate_left
                        · simp only [Act.put, List.setIfInBounds_toArray, List.set_cons_zero, List.set_cons_succ, i64_w, i32_w]
                          rfl
                        refine pure_ (i := 6) (N := some 64) (v := ?_) (a' := ?_) #[true, true, true, true, true, true, true, true, false, false] rfl rfl (any_of HT_.out (by kernel_rfl)) (fun _ _ _ h => h) (Or.inl ⟨by rfl, ?_⟩) ?_ ?_
                        rotate_left
                        · intro w'
                          go_simp
                          with_reducible rfl
                        rotate_left
                        · simp only [Act.put, List.setIfInBounds_toArray, List.set_cons_zero, List.set_cons_succ, i64_w, i32_w]
                          rfl
                        refine pure_ (i := 8) (N := some 66) (v := ?_) (a' := ?_) #[true, true, true, true, true, true, true, true, true, false] rfl rfl (any_of HT_.out (by kernel_rfl)) (fun _ _ _ h => h) (Or.inl ⟨by rfl, ?_⟩) ?_ ?_
                        rotate_left
                        · intro w'
                          go_simp
                          with_reducible rfl
                        rotate_left
                        · simp only [Act.put, List.setIfInBounds_toArray, List.set_cons_zero, List.set_cons_succ, i64_w, i32_w]
                          rfl
                        refine last_ (i := 9) (N := none) #[true, true, true, true, true, true, true, true, true, true] rfl rfl (one_of HT_.out (by kernel_rfl)) (by decide) (fun K hK => ?_)
                        have hx45 : w70.cell? ⟨gb202, a2.toNat * 16 + a3.toNat, none⟩ = some (.int .i64 (Arr.vrd2 16 t201 a2 a3)) := Arr.cellN (off := 0) (l := (Arr.arL .i64 t201)) (show w70.heap[gb202]? = some (.cells (⟨Arr.arL .i64 t201⟩ : Array Value) 70 (0, 0)) from by (with_reducible repeat (first | refine blk_drewN ?_ _ | refine blk_drew ?_ | refine blk_alloc ?_ _)); exact BK202.out) rfl (a2.toNat * 16 + a3.toNat) (a2.toNat * 16 + a3.toNat) (by omega) (by have a0_ := of_eq_true p43; have b0_ := of_eq_true q43; have a1_ := of_eq_true p44; have b1_ := of_eq_true q44; omega)
                        have hf45 := blk_frozen (show w70.heap[gb202]? = some (.cells (⟨Arr.arL .i64 t201⟩ : Array Value) 70 (0, 0)) from by (with_reducible repeat (first | refine blk_drewN ?_ _ | refine blk_drew ?_ | refine blk_alloc ?_ _)); exact BK202.out) (a2.toNat * 16 + a3.toNat)
                        refine skip_ (w1 := w70.setCell ⟨gb202, a2.toNat * 16 + a3.toNat, none⟩ (.int .i64 (wrap64 ((Arr.vrd2 16 t201 a2 a3) - a5)))) (by rfl) rfl ?_ ?_
                        · first | (go_simp; done) | (go_simp; rfl)
                        refine hK.out _ _ ?_
                        clear hK K
                        refine done_ (done_of HT_.out (by kernel_rfl)) ?_
                        obtain ⟨w71, hw_, hbx, hg, hbe⟩ := Arr.stored_at (g := gb202) (off := 0) (m := a2.toNat * 16 + a3.toNat) (n := a2.toNat * 16 + a3.toNat) (k := .i64) (y := (wrap64 ((Arr.vrd2 16 t201 a2 a3) - a5))) (x := t201) (t := 70) (pre := []) (show w70.heap[gb202]? = some (.cells (⟨Arr.arL .i64 t201⟩ : Array Value) 70 (0, 0)) from by (with_reducible repeat (first | refine blk_drewN ?_ _ | refine blk_drew ?_ | refine blk_alloc ?_ _)); exact BK202.out) rfl (by omega)
                        rw [hw_]
                        clear hw_
                        replace hbx : w71.heap[gb202]? = some (.cells (⟨Arr.arL .i64 y203⟩ : Array Value) 70 (0, 0)) := (by rw [Ny203.out]; exact hbx)
                        have n0_ := Aside0.mk (hbx)
                        have n1_ := Aside0.mk (hbe _ _ (by repeat (first | (with_reducible first | exact HB.out | apply below_alloc | apply pw_below_drewN | apply below_drew1 | refine below_set ?_ GE202.out) | exact HB.out)) GE202.out)
                        clear BK202
                        clear HB
                        have BK202 := n0_
                        have HB := n1_
                        clear n0_ n1_
                        (try clear hbx hg hbe)
                        try go_wp2
                        have n0_ := Aside0.mk (blk_drew BK202.out)
                        have n1_ := Aside0.mk (below_drew1 HB.out)
                        clear BK202
                        clear HB
                        have BK202 := n0_
                        have HB := n1_
                        clear n0_ n1_
                        have p46 : 0 ≤ (a3 : Int) := of_decide_eq_true (by first | (with_reducible assumption) | assumption)
                        have q46 : (a3 : Int) < 16 := of_decide_eq_true (by first | (with_reducible assumption) | assumption)
                        replace p46 := eq_true p46
                        replace q46 := eq_true q46
                        have p49 : 0 ≤ (a4 : Int) := of_decide_eq_true (by first | (with_reducible assumption) | assumption)
                        have q49 : (a4 : Int) < 16 := of_decide_eq_true (by first | (with_reducible assumption) | assumption)
                        replace p49 := eq_true p49
                        replace q49 := eq_true q49
                        have p51 : 0 ≤ (a3 : Int) := of_decide_eq_true (by first | (with_reducible assumption) | assumption)
                        have q51 : (a3 : Int) < 16 := of_decide_eq_true (by first | (with_reducible assumption) | assumption)
                        replace p51 := eq_true p51
                        replace q51 := eq_true q51
                        have p52 : 0 ≤ (a4 : Int) := of_decide_eq_true (by first | (with_reducible assumption) | assumption)
                        have q52 : (a4 : Int) < 16 := of_decide_eq_true (by first | (with_reducible assumption) | assumption)
                        replace p52 := eq_true p52
                        replace q52 := eq_true q52
                        refine start_ (n := 10) (S := fun w' => w'.cell? ⟨gb202, a3.toNat * 16 + a4.toNat, none⟩ = some (.int .i64 (Arr.vrd2 16 y203 a3 a4))) (ds := [9]) #[false, false, false, false, false, false, false, false, false, false] (by kernel_rfl) rfl rfl ((Arr.cellN (off := 0) (l := (Arr.arL .i64 y203)) (BK202.out) rfl (a3.toNat * 16 + a4.toNat) (a3.toNat * 16 + a4.toNat) (by omega) (by have a0_ := of_eq_true p46; have b0_ := of_eq_true q46; have a1_ := of_eq_true p49; have b1_ := of_eq_true q49; omega))) (fun hHeld => ?_); refine with_tabW impl_PassDebt.tab8 impl_PassDebt.bits8 (fun HT_ HW_ => ?_)
                        generalize w71.drew = w72 at BK202 HB hHeld ⊢
                        refine pure_ (i := 0) (N := some 67) (v := ?_) (a' := ?_) #[true, false, false, false, false, false, false, false, false, false] rfl rfl (any_of HT_.out (by kernel_rfl)) (fun _ _ _ h => h) (Or.inl ⟨by rfl, ?_⟩) ?_ ?_
                        rotate_left
                        · intro w'
                          go_simp
                          with_reducible rfl
                        rotate_left
                        · simp only [Act.put, List.setIfInBounds_toArray, List.set_cons_zero, List.set_cons_succ, i64_w, i32_w]
                          rfl
                        refine pure_ (i := 1) (N := some 68) (v := ?_) (a' := ?_) #[true, true, false, false, false, false, false, false, false, false] rfl rfl (any_of HT_.out (by kernel_rfl)) (fun _ _ _ h => h) (Or.inl ⟨by rfl, ?_⟩) ?_ ?_
                        rotate_left
                        · intro w'
                          go_simp
                          with_reducible rfl
                        rotate_left
                        · simp only [Act.put, List.setIfInBounds_toArray, List.set_cons_zero, List.set_cons_succ, i64_w, i32_w]
                          rfl
                        refine pure_ (i := 2) (N := some 69) (v := ?_) (a' := ?_) #[true, true, true, false, false, false, false, false, false, false] rfl rfl (any_of HT_.out (by kernel_rfl)) (fun _ _ _ h => h) (Or.inl ⟨by rfl, ?_⟩) ?_ ?_
                        rotate_left
                        · intro w'
                          go_simp
                          with_reducible rfl
                        rotate_left
                        · simp only [Act.put, List.setIfInBounds_toArray, List.set_cons_zero, List.set_cons_succ, i64_w, i32_w]
                          rfl
                        refine pure_ (i := 3) (N := some 70) (v := ?_) (a' := ?_) #[true, true, true, true, false, false, false, false, false, false] rfl rfl (any_of HT_.out (by kernel_rfl)) (fun _ _ _ h => h) (Or.inl ⟨by rfl, ?_⟩) ?_ ?_
                        rotate_left
                        · intro w'
                          go_simp
                          with_reducible rfl
                        rotate_left
                        · simp only [Act.put, List.setIfInBounds_toArray, List.set_cons_zero, List.set_cons_succ, i64_w, i32_w]
                          rfl
                        refine pure_ (i := 5) (N := some 72) (v := ?_) (a' := ?_) #[true, true, true, true, false, true, false, false, false, false] rfl rfl (any_of HT_.out (by kernel_rfl)) (fun _ _ _ h => h) (Or.inl ⟨by rfl, ?_⟩) ?_ ?_
                        rotate_left
                        · intro w'
                          go_simp
                          with_reducible rfl
                        rotate_left
                        · simp only [Act.put, List.setIfInBounds_toArray, List.set_cons_zero, List.set_cons_succ, i64_w, i32_w]
                          rfl
                        refine pure_ (i := 7) (N := some 74) (v := ?_) (a' := ?_) #[true, true, true, true, false, true, false, true, false, false] rfl rfl (any_of HT_.out (by kernel_rfl)) (fun _ _ _ h => h) (Or.inl ⟨by rfl, ?_⟩) ?_ ?_
                        rotate_left
                        · intro w'
                          go_simp
                          with_reducible rfl
                        rotate_left
                        · simp only [Act.put, List.setIfInBounds_toArray, List.set_cons_zero, List.set_cons_succ, i64_w, i32_w]
                          rfl
                        refine take_ (i := 4) (N := some 71) (v := ?_) (a' := ?_) #[true, true, true, true, true, true, false, true, false, false] rfl rfl (take_ofW HT_.out HW_.out (by kernel_rfl)) (fun _ _ _ h => h) (Or.inl ⟨by rfl, ?_⟩) hHeld ?_ ?_
                        rotate_left
                        · intro w' s0
                          go_simp
                          with_reducible rfl
                        rotate_left
                        · simp only [Act.put, List.setIfInBounds_toArray, List.set_cons_zero, List.set_cons_succ, i64_w, i32_w]
                          rfl
                        refine pure_ (i := 6) (N := some 73) (v := ?_) (a' := ?_) #[true, true, true, true, true, true, true, true, false, false] rfl rfl (any_of HT_.out (by kernel_rfl)) (fun _ _ _ h => h) (Or.inl ⟨by rfl, ?_⟩) ?_ ?_
                        rotate_left
                        · intro w'
                          go_simp
                          with_reducible rfl
                        rotate_left
                        · simp only [Act.put, List.setIfInBounds_toArray, List.set_cons_zero, List.set_cons_succ, i64_w, i32_w]
                          rfl
                        refine pure_ (i := 8) (N := some 75) (v := ?_) (a' := ?_) #[true, true, true, true, true, true, true, true, true, false] rfl rfl (any_of HT_.out (by kernel_rfl)) (fun _ _ _ h => h) (Or.inl ⟨by rfl, ?_⟩) ?_ ?_
                        rotate_left
                        · intro w'
                          go_simp
                          with_reducible rfl
                        rotate_left
                        · simp only [Act.put, List.setIfInBounds_toArray, List.set_cons_zero, List.set_cons_succ, i64_w, i32_w]
                          rfl
                        refine last_ (i := 9) (N := none) #[true, true, true, true, true, true, true, true, true, true] rfl rfl (one_of HT_.out (by kernel_rfl)) (by decide) (fun K hK => ?_)
                        have hx53 : w72.cell? ⟨gb202, a3.toNat * 16 + a4.toNat, none⟩ = some (.int .i64 (Arr.vrd2 16 y203 a3 a4)) := Arr.cellN (off := 0) (l := (Arr.arL .i64 y203)) (show w72.heap[gb202]? = some (.cells (⟨Arr.arL .i64 y203⟩ : Array Value) 70 (0, 0)) from by (with_reducible repeat (first | refine blk_drewN ?_ _ | refine blk_drew ?_ | refine blk_alloc ?_ _)); exact BK202.out) rfl (a3.toNat * 16 + a4.toNat) (a3.toNat * 16 + a4.toNat) (by omega) (by have a0_ := of_eq_true p51; have b0_ := of_eq_true q51; have a1_ := of_eq_true p52; have b1_ := of_eq_true q52; omega)
                        have hf53 := blk_frozen (show w72.heap[gb202]? = some (.cells (⟨Arr.arL .i64 y203⟩ : Array Value) 70 (0, 0)) from by (with_reducible repeat (first | refine blk_drewN ?_ _ | refine blk_drew ?_ | refine blk_alloc ?_ _)); exact BK202.out) (a3.toNat * 16 + a4.toNat)
                        refine skip_ (w1 := w72.setCell ⟨gb202, a3.toNat * 16 + a4.toNat, none⟩ (.int .i64 (wrap64 ((Arr.vrd2 16 y203 a3 a4) - a5)))) (by rfl) rfl ?_ ?_
                        · first | (go_simp; done) | (go_simp; rfl)
                        refine hK.out _ _ ?_
                        clear hK K
                        refine done_ (done_of HT_.out (by kernel_rfl)) ?_
                        obtain ⟨w73, hw_, hbx, hg, hbe⟩ := Arr.stored_at (g := gb202) (off := 0) (m := a3.toNat * 16 + a4.toNat) (n := a3.toNat * 16 + a4.toNat) (k := .i64) (y := (wrap64 ((Arr.vrd2 16 y203 a3 a4) - a5))) (x := y203) (t := 70) (pre := []) (show w72.heap[gb202]? = some (.cells (⟨Arr.arL .i64 y203⟩ : Array Value) 70 (0, 0)) from by (with_reducible repeat (first | refine blk_drewN ?_ _ | refine blk_drew ?_ | refine blk_alloc ?_ _)); exact BK202.out) rfl (by omega)
                        rw [hw_]
                        clear hw_
                        replace hbx : w73.heap[gb202]? = some (.cells (⟨Arr.arL .i64 y204⟩ : Array Value) 70 (0, 0)) := (by rw [Ny204.out]; exact hbx)
                        have n0_ := Aside0.mk (hbx)
                        have n1_ := Aside0.mk (hbe _ _ (by repeat (first | (with_reducible first | exact HB.out | apply below_alloc | apply pw_below_drewN | apply below_drew1 | refine below_set ?_ GE202.out) | exact HB.out)) GE202.out)
                        clear BK202
                        clear HB
                        have BK202 := n0_
                        have HB := n1_
                        clear n0_ n1_
                        (try clear hbx hg hbe)
                        try go_wp2
                        have n0_ := Aside0.mk (blk_drew BK202.out)
                        have n1_ := Aside0.mk (below_drew1 HB.out)
                        clear BK202
                        clear HB
                        have BK202 := n0_
                        have HB := n1_
                        clear n0_ n1_
                        have p62 : 0 ≤ (a2 : Int) := of_decide_eq_true (by first | (with_reducible assumption) | assumption)
                        have q62 : (a2 : Int) < 16 := of_decide_eq_true (by first | (with_reducible assumption) | assumption)
                        replace p62 := eq_true p62
                        replace q62 := eq_true q62
                        have p63 : 0 ≤ (a4 : Int) := of_decide_eq_true (by first | (with_reducible assumption) | assumption)
                        have q63 : (a4 : Int) < 16 := of_decide_eq_true (by first | (with_reducible assumption) | assumption)
                        replace p63 := eq_true p63
                        replace q63 := eq_true q63
                        have p65 : 0 ≤ (a2 : Int) := of_decide_eq_true (by first | (with_reducible assumption) | assumption)
                        have q65 : (a2 : Int) < 16 := of_decide_eq_true (by first | (with_reducible assumption) | assumption)
                        replace p65 := eq_true p65
                        replace q65 := eq_true q65
                        have p66 : 0 ≤ (a4 : Int) := of_decide_eq_true (by first | (with_reducible assumption) | assumption)
                        have q66 : (a4 : Int) < 16 := of_decide_eq_true (by first | (with_reducible assumption) | assumption)
                        replace p66 := eq_true p66
                        replace q66 := eq_true q66
                        refine start_ (n := 10) (S := fun w' => w'.cell? ⟨gb202, a2.toNat * 16 + a4.toNat, none⟩ = some (.int .i64 (Arr.vrd2 16 y204 a2 a4))) (ds := [9]) #[false, false, false, false, false, false, false, false, false, false] (by kernel_rfl) rfl rfl ((Arr.cellN (off := 0) (l := (Arr.arL .i64 y204)) (BK202.out) rfl (a2.toNat * 16 + a4.toNat) (a2.toNat * 16 + a4.toNat) (by omega) (by have a0_ := of_eq_true p62; have b0_ := of_eq_true q62; have a1_ := of_eq_true p63; have b1_ := of_eq_true q63; omega))) (fun hHeld => ?_); refine with_tabW impl_PassDebt.tab10 impl_PassDebt.bits10 (fun HT_ HW_ => ?_)
                        generalize w73.drew = w74 at BK202 HB hHeld ⊢
                        refine pure_ (i := 0) (N := some 79) (v := ?_) (a' := ?_) #[true, false, false, false, false, false, false, false, false, false] rfl rfl (any_of HT_.out (by kernel_rfl)) (fun _ _ _ h => h) (Or.inl ⟨by rfl, ?_⟩) ?_ ?_
                        rotate_left
                        · intro w'
                          go_simp
                          with_reducible rfl
                        rotate_left
                        · simp only [Act.put, List.setIfInBounds_toArray, List.set_cons_zero, List.set_cons_succ, i64_w, i32_w]
                          rfl
                        refine pure_ (i := 1) (N := some 80) (v := ?_) (a' := ?_) #[true, true, false, false, false, false, false, false, false, false] rfl rfl (any_of HT_.out (by kernel_rfl)) (fun _ _ _ h => h) (Or.inl ⟨by rfl, ?_⟩) ?_ ?_
                        rotate_left
                        · intro w'
                          go_simp
                          with_reducible rfl
                        rotate_left
                        · simp only [Act.put, List.setIfInBounds_toArray, List.set_cons_zero, List.set_cons_succ, i64_w, i32_w]
                          rfl
                        refine pure_ (i := 2) (N := some 81) (v := ?_) (a' := ?_) #[true, true, true, false, false, false, false, false, false, false] rfl rfl (any_of HT_.out (by kernel_rfl)) (fun _ _ _ h => h) (Or.inl ⟨by rfl, ?_⟩) ?_ ?_
                        rotate_left
                        · intro w'
                          go_simp
                          with_reducible rfl
                        rotate_left
                        · simp only [Act.put, List.setIfInBounds_toArray, List.set_cons_zero, List.set_cons_succ, i64_w, i32_w]
                          rfl
                        refine pure_ (i := 3) (N := some 82) (v := ?_) (a' := ?_) #[true, true, true, true, false, false, false, false, false, false] rfl rfl (any_of HT_.out (by kernel_rfl)) (fun _ _ _ h => h) (Or.inl ⟨by rfl, ?_⟩) ?_ ?_
                        rotate_left
                        · intro w'
                          go_simp
                          with_reducible rfl
                        rotate_left
                        · simp only [Act.put, List.setIfInBounds_toArray, List.set_cons_zero, List.set_cons_succ, i64_w, i32_w]
                          rfl
                        refine pure_ (i := 5) (N := some 84) (v := ?_) (a' := ?_) #[true, true, true, true, false, true, false, false, false, false] rfl rfl (any_of HT_.out (by kernel_rfl)) (fun _ _ _ h => h) (Or.inl ⟨by rfl, ?_⟩) ?_ ?_
                        rotate_left
                        · intro w'
                          go_simp
                          with_reducible rfl
                        rotate_left
                        · simp only [Act.put, List.setIfInBounds_toArray, List.set_cons_zero, List.set_cons_succ, i64_w, i32_w]
                          rfl
                        refine pure_ (i := 7) (N := some 86) (v := ?_) (a' := ?_) #[true, true, true, true, false, true, false, true, false, false] rfl rfl (any_of HT_.out (by kernel_rfl)) (fun _ _ _ h => h) (Or.inl ⟨by rfl, ?_⟩) ?_ ?_
                        rotate_left
                        · intro w'
                          go_simp
                          with_reducible rfl
                        rotate_left
                        · simp only [Act.put, List.setIfInBounds_toArray, List.set_cons_zero, List.set_cons_succ, i64_w, i32_w]
                          rfl
                        refine take_ (i := 4) (N := some 83) (v := ?_) (a' := ?_) #[true, true, true, true, true, true, false, true, false, false] rfl rfl (take_ofW HT_.out HW_.out (by kernel_rfl)) (fun _ _ _ h => h) (Or.inl ⟨by rfl, ?_⟩) hHeld ?_ ?_
                        rotate_left
                        · intro w' s0
                          go_simp
                          with_reducible rfl
                        rotate_left
                        · simp only [Act.put, List.setIfInBounds_toArray, List.set_cons_zero, List.set_cons_succ, i64_w, i32_w]
                          rfl
                        refine pure_ (i := 6) (N := some 85) (v := ?_) (a' := ?_) #[true, true, true, true, true, true, true, true, false, false] rfl rfl (any_of HT_.out (by kernel_rfl)) (fun _ _ _ h => h) (Or.inl ⟨by rfl, ?_⟩) ?_ ?_
                        rotate_left
                        · intro w'
                          go_simp
                          with_reducible rfl
                        rotate_left
                        · simp only [Act.put, List.setIfInBounds_toArray, List.set_cons_zero, List.set_cons_succ, i64_w, i32_w]
                          rfl
                        refine pure_ (i := 8) (N := some 87) (v := ?_) (a' := ?_) #[true, true, true, true, true, true, true, true, true, false] rfl rfl (any_of HT_.out (by kernel_rfl)) (fun _ _ _ h => h) (Or.inl ⟨by rfl, ?_⟩) ?_ ?_
                        rotate_left
                        · intro w'
                          go_simp
                          with_reducible rfl
                        rotate_left
                        · simp only [Act.put, List.setIfInBounds_toArray, List.set_cons_zero, List.set_cons_succ, i64_w, i32_w]
                          rfl
                        refine last_ (i := 9) (N := none) #[true, true, true, true, true, true, true, true, true, true] rfl rfl (one_of HT_.out (by kernel_rfl)) (by decide) (fun K hK => ?_)
                        have hx67 : w74.cell? ⟨gb202, a2.toNat * 16 + a4.toNat, none⟩ = some (.int .i64 (Arr.vrd2 16 y204 a2 a4)) := Arr.cellN (off := 0) (l := (Arr.arL .i64 y204)) (show w74.heap[gb202]? = some (.cells (⟨Arr.arL .i64 y204⟩ : Array Value) 70 (0, 0)) from by (with_reducible repeat (first | refine blk_drewN ?_ _ | refine blk_drew ?_ | refine blk_alloc ?_ _)); exact BK202.out) rfl (a2.toNat * 16 + a4.toNat) (a2.toNat * 16 + a4.toNat) (by omega) (by have a0_ := of_eq_true p65; have b0_ := of_eq_true q65; have a1_ := of_eq_true p66; have b1_ := of_eq_true q66; omega)
                        have hf67 := blk_frozen (show w74.heap[gb202]? = some (.cells (⟨Arr.arL .i64 y204⟩ : Array Value) 70 (0, 0)) from by (with_reducible repeat (first | refine blk_drewN ?_ _ | refine blk_drew ?_ | refine blk_alloc ?_ _)); exact BK202.out) (a2.toNat * 16 + a4.toNat)
                        refine skip_ (w1 := w74.setCell ⟨gb202, a2.toNat * 16 + a4.toNat, none⟩ (.int .i64 (wrap64 ((Arr.vrd2 16 y204 a2 a4) + a5)))) (by rfl) rfl ?_ ?_
                        · first | (go_simp; done) | (go_simp; rfl)
                        refine hK.out _ _ ?_
                        clear hK K
                        refine done_ (done_of HT_.out (by kernel_rfl)) ?_
                        obtain ⟨w75, hw_, hbx, hg, hbe⟩ := Arr.stored_at (g := gb202) (off := 0) (m := a2.toNat * 16 + a4.toNat) (n := a2.toNat * 16 + a4.toNat) (k := .i64) (y := (wrap64 ((Arr.vrd2 16 y204 a2 a4) + a5))) (x := y204) (t := 70) (pre := []) (show w74.heap[gb202]? = some (.cells (⟨Arr.arL .i64 y204⟩ : Array Value) 70 (0, 0)) from by (with_reducible repeat (first | refine blk_drewN ?_ _ | refine blk_drew ?_ | refine blk_alloc ?_ _)); exact BK202.out) rfl (by omega)
                        rw [hw_]
                        clear hw_
                        replace hbx : w75.heap[gb202]? = some (.cells (⟨Arr.arL .i64 y209⟩ : Array Value) 70 (0, 0)) := (by rw [Ny209.out]; exact hbx)
                        have n0_ := Aside0.mk (hbx)
                        have n1_ := Aside0.mk (hbe _ _ (by repeat (first | (with_reducible first | exact HB.out | apply below_alloc | apply pw_below_drewN | apply below_drew1 | refine below_set ?_ GE202.out) | exact HB.out)) GE202.out)
                        clear BK202
                        clear HB
                        have BK202 := n0_
                        have HB := n1_
                        clear n0_ n1_
                        (try clear hbx hg hbe)
                        try go_wp2_with (first | ((with_reducible refine Arr.gate_load (t := 70) (p := 15) rfl ?_); (try (refine gate_guard (by rfl) ?_; dsimp only)); refine Arr.loadA ?hg (T := 70) (p := 15) ?ho (g := gb202) (off := 0) ?hx (t := 70) (l := (Arr.arL .i64 y209)) (m := (Arr.arL .i64 y209)) (fr := (0, 0)) (show w75.heap[gb202]? = some (.cells (⟨Arr.arL .i64 y209⟩ : Array Value) 70 (0, 0)) from by (with_reducible repeat (first | refine blk_drewN ?_ _ | refine blk_drew ?_ | refine blk_alloc ?_ _)); exact BK202.out) rfl Try.underlying70 rfl (n := 256) (by kernel_rfl) (by simp [Arr.arL_length]) ?_; (case hg => rfl); (case ho => rfl); (case hx => first | (go_simp; done) | rfl | (go_simp; rfl))) | ((with_reducible refine gate_callee (f := 62) rfl ?_); refine goesL_ (some 89) rfl rfl Try.func62 (by kernel_rfl) rfl #[.agg (⟨Arr.arL .i64 y209⟩ : Array Value)] rfl (by (try simp only [List.map_toArray, List.map_cons, List.map_nil]); first | done | (go_simp; done) | rfl | (simp only [List.length_drop, List.length_take]; rfl)) ?_; (with_reducible refine (impl_sums_debts.calls kj10 y209 t210 t213 _ A69.out).mono ?_); rintro e w76 ⟨v211, rfl, ho0, hb⟩; refine ⟨_, rfl, ?_⟩; have n0_ := Aside0.mk (Kd.R_lower ho0 (below_size (by repeat (first | (with_reducible first | exact HB.out | apply below_alloc | apply pw_below_drewN | apply below_drew1 | refine below_set ?_ GE202.out) | exact HB.out)))); have n1_ := Aside0.mk (blk_below (g := gb202) (o := .cells (⟨Arr.arL .i64 y209⟩ : Array Value) 70 (0, 0)) (by (with_reducible repeat (first | refine blk_drewN ?_ _ | refine blk_drew ?_ | refine blk_alloc ?_ _)); exact BK202.out) hb); have n2_ := Aside0.mk (below_step (by repeat (first | (with_reducible first | exact HB.out | apply below_alloc | apply pw_below_drewN | apply below_drew1 | refine below_set ?_ GE202.out) | exact HB.out)) hb); clear BK202; clear HB; have HO212 := n0_; have BK202 := n1_; have HB := n2_; clear n0_ n1_ n2_; (try clear hb); (try clear hb2); (try clear hk); (try clear hi); (try clear ho0)))
                        go_ret2
                        exact ⟨_, by first | rfl | (simp [errW_none, errW_some] <;> rfl) | (simp [*, errW_none, errW_some] <;> rfl), by (with_reducible repeat (first | apply Kd.R_alloc | apply Kd.R_drewN | apply Kd.R_drew)); exact HO212.out, by repeat (first | (with_reducible first | exact HB.out | apply below_alloc | apply pw_below_drewN | apply below_drew1 | refine below_set ?_ GE202.out) | exact HB.out)⟩
                    · rw [if_neg c48] at H
                      exact absurd H (by simp)
                  · rw [if_neg c47] at H
                    exact absurd H (by simp)
                · rw [if_neg c40] at H
                  exact absurd H (by simp)
              · rw [if_neg c39] at H
                exact absurd H (by simp)
            · rw [if_neg c37] at H
              exact absurd H (by simp)
          · rw [if_neg c36] at H
            exact absurd H (by simp)
  · rw [if_neg c8] at H
    have c8b0 : (t200 == 0) = false := beq_eq_false_iff_ne.mpr c8
    have c8b1 : (t200 != 0) = true := bne_iff_ne.mpr c8
    simp only [Option.some.injEq, Prod.mk.injEq] at H
    obtain ⟨rfl, rfl⟩ := H
    go_enter Try.func39, Try.ntmps39
    go_wp2_with (first | ((with_reducible refine gate_dst (N := 21) rfl ?_); refine Kd.R_lit (Kd.int .i64) _ 2 ?hg (N := 21) ?hd (xs := ([a2, a3, a4] : List Int)) (inner := [.int .i64 a2, .int .i64 a3, .int .i64 a4]) (ok := fun _ => True) (okp := fun _ => True) ?hr ?hp (fun _ hk => hk) trivial (Below.refl _ _) (Nat.le_refl _) (by simp) ?_; (case hd => rfl); (case hg => rfl); (case hr => first | (go_simp; done) | (go_simp; rfl)); (case hp => exact (Reps.one (show Kd.M (Kd.int .i64) _ _ _ a2 [.int .i64 a2] from rfl) (Reps.one (show Kd.M (Kd.int .i64) _ _ _ a3 [.int .i64 a3] from rfl) (Reps.one (show Kd.M (Kd.int .i64) _ _ _ a4 [.int .i64 a4] from rfl) (Reps.none _ _))))); intro v198 w77 ho78 hb hg_ hnew_; clear hg_ hnew_; (first | rw [← Ny197.out] at ho78 | (simp only [Int.reduceToNat] at ho78; rw [← Ny197.out] at ho78)); have n0_ := Aside0.mk (Kd.R_lower ho78 (below_size (by repeat (first | (with_reducible first | exact HB.out | apply below_alloc | apply pw_below_drewN | apply below_drew1) | exact HB.out)))); have n1_ := Aside0.mk (below_step (by repeat (first | (with_reducible first | exact HB.out | apply below_alloc | apply pw_below_drewN | apply below_drew1) | exact HB.out)) hb); clear HB; have HO199 := n0_; have HB := n1_; clear n0_ n1_; clear hb ho78; obtain ⟨Ao79, co79, eo79⟩ := Kd.R_slice HO199.out; subst eo79) | ((with_reducible refine gate_callee (f := 56) rfl ?_); refine goesL_ (some 22) rfl rfl Try.func56 (by kernel_rfl) rfl #[.int .i64 a0, .slice A1 l1.length c1, .slice Ao79 y197.length co79] rfl (by (try simp only [List.map_toArray, List.map_cons, List.map_nil]); first | done | (go_simp; done) | rfl | (simp only [List.length_drop, List.length_take]; rfl)) ?_; (with_reducible refine (impl_debtsCode.calls k a0 _ _ l1 _ _ y197 t200 _ ?side1 ?side2 ?side3 ?side4 A7.out).mono ?_); (case side1 => repeat (first | exact (Kd.C_below HR1.out HB.out) | (with_reducible refine Kd.C_alloc ?_ _) | (with_reducible refine Kd.C_drewN ?_ _) | (with_reducible refine Kd.C_drew ?_))); (case side2 => exact HC1.out); (case side3 => repeat (first | exact (Kd.R_reads' HO199.out).2.2 | (with_reducible refine Kd.C_alloc ?_ _) | (with_reducible refine Kd.C_drewN ?_ _) | (with_reducible refine Kd.C_drew ?_))); (case side4 => exact (Kd.R_reads' HO199.out).2.1); rintro e w80 ⟨rfl, hb⟩; refine ⟨_, rfl, ?_⟩; have n0_ := Aside0.mk (Kd.R_below (by (with_reducible repeat (first | apply Kd.R_alloc | apply Kd.R_drewN | apply Kd.R_drew)); exact HO199.out) hb); have n1_ := Aside0.mk (below_step (by repeat (first | (with_reducible first | exact HB.out | apply below_alloc | apply pw_below_drewN | apply below_drew1) | exact HB.out)) hb); clear HO199; clear HB; have HO199 := n0_; have HB := n1_; clear n0_ n1_; (try clear hb); (try clear hb2); (try clear hk); (try clear hi)))
    go_ret2
    exact ⟨_, by first | rfl | (simp [errW_none, errW_some] <;> rfl) | (simp [*, errW_none, errW_some] <;> rfl), by first | exact Kd.R_nil _ _ _ _ _ | exact Kd.N_nil _ _ _ _ _ | exact Kd.V_nil _ _ _ _ _ | exact Kd.Q_nil _ _ _ _ _ | exact Kd.S_nil _ _ _ _ _, by repeat (first | (with_reducible first | exact HB.out | apply below_alloc | apply pw_below_drewN | apply below_drew1) | exact HB.out)⟩

end Go.Proofs.Ytofcgkcpkngocaa.MPassDebt
