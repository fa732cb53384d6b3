-- by a program of this session, for this claim
import Derived.Test.YtofcgkcpkngocaaMCirclesx0
import Derived.Test.YtofcgkcpkngocaaMCirclesx2
namespace Go.Proofs.Ytofcgkcpkngocaa.MCircles
open Go.RowKit Go.Proofs.YtofcgkcpkngocaaW.PrintWords Go.Proofs.YtofcgkcpkngocaaW.PrintLast Go.Proofs.YtofcgkcpkngocaaW.PrintMore
attribute [local go_sem] max2_int min2_int max_two min_two max_three min_three max_four min_four   -- for this text's walks alone
set_option linter.unusedVariables false
set_option linter.unusedSimpArgs false

/-! ### impl_sums_debts: function 62 -/
mutual
def impl_sums_debts.l0 : Nat → List (S65) → Int → Vector Int 256 → Option ((List (S65)) × Int)
  | 0, _, _, _ => none
  | k + 1, x4, x11, x501 => if x11 < 16 then (if 0 ≤ x11 then (impl_sums_debts.l1 k x4 x11 x11 0 x501 (Arr.vrow 16 x501 x11)) else (none)) else (if (x4.length : Int) > 60 then (some (([] : List (S65)), 3)) else (some (x4, 0)))
def impl_sums_debts.l1 : Nat → List (S65) → Int → Int → Int → Vector Int 256 → Vector Int 16 → Option ((List (S65)) × Int)
  | 0, _, _, _, _, _, _ => none
  | k + 1, x4, x5, x11, x16, x501, x503 => if x16 < 16 then (if 0 ≤ x16 then (if (Arr.vrd x503 x16) > 100000000 then (some (([] : List (S65)), 3)) else (if (Arr.vrd x503 x16) > 0 then (if x4.length < 5864062014805 then (impl_sums_debts.l1 k (x4 ++ [(⟨x5, x16, Arr.vrd x503 x16⟩ : S65)]) x5 x11 (wrap64 (x16 + 1)) x501 x503) else (none)) else (impl_sums_debts.l1 k x4 x5 x11 (wrap64 (x16 + 1)) x501 x503))) else (none)) else (impl_sums_debts.l0 k x4 (wrap64 (x11 + 1)) x501)
end
def impl_sums_debts.f (k : Nat) (a0_0 : Vector Int 256) : Option ((List (S65)) × Int) := impl_sums_debts.l0 k (([] : List (S65))) 0 a0_0
theorem impl_sums_debts.mono_l : ∀ k, (∀ y0 y1 y2, LeO (impl_sums_debts.l0 k y0 y1 y2) (impl_sums_debts.l0 (k + 1) y0 y1 y2)) ∧ (∀ y0 y1 y2 y3 y4 y5, LeO (impl_sums_debts.l1 k y0 y1 y2 y3 y4 y5) (impl_sums_debts.l1 (k + 1) y0 y1 y2 y3 y4 y5))
  | 0 => ⟨fun _ _ _ r h => by simp [impl_sums_debts.l0] at h, fun _ _ _ _ _ _ r h => by simp [impl_sums_debts.l1] at h⟩
  | k + 1 => by
    obtain ⟨ih0, ih1⟩ := impl_sums_debts.mono_l k
    refine ⟨?_, ?_⟩
    · intro y0 y1 y2
      unfold impl_sums_debts.l0
      repeat' first
      | (with_reducible exact ih0 _ _ _)
      | (with_reducible exact ih1 _ _ _ _ _ _)
      | (with_reducible exact LeO.refl _)
      | (with_reducible exact LeO.none _)
      | (with_reducible refine LeO.ite ?_ ?_)
      | (with_reducible refine LeO.bind ?_ (fun _ => ?_))
      | exact ih0 _ _ _
      | exact ih1 _ _ _ _ _ _
      | exact LeO.none _
      | refine LeO.ite ?_ ?_
      | refine LeO.bind ?_ (fun _ => ?_)
    · intro y0 y1 y2 y3 y4 y5
      unfold impl_sums_debts.l1
      repeat' first
      | (with_reducible exact ih0 _ _ _)
      | (with_reducible exact ih1 _ _ _ _ _ _)
      | (with_reducible exact LeO.refl _)
      | (with_reducible exact LeO.none _)
      | (with_reducible refine LeO.ite ?_ ?_)
      | (with_reducible refine LeO.bind ?_ (fun _ => ?_))
      | exact ih0 _ _ _
      | exact ih1 _ _ _ _ _ _
      | exact LeO.none _
      | refine LeO.ite ?_ ?_
      | refine LeO.bind ?_ (fun _ => ?_)
theorem impl_sums_debts.mono : ∀ a0 k, LeO (impl_sums_debts.f k a0) (impl_sums_debts.f (k + 1) a0) := by
  intro a0 k; obtain ⟨ih0, ih1⟩ := impl_sums_debts.mono_l k; unfold impl_sums_debts.f
  repeat' first
      | (with_reducible exact ih0 _ _ _)
      | (with_reducible exact ih1 _ _ _ _ _ _)
      | (with_reducible exact LeO.refl _)
      | (with_reducible exact LeO.none _)
      | (with_reducible refine LeO.ite ?_ ?_)
      | (with_reducible refine LeO.bind ?_ (fun _ => ?_))
      | exact ih0 _ _ _
      | exact ih1 _ _ _ _ _ _
      | exact LeO.none _
      | refine LeO.ite ?_ ?_
      | refine LeO.bind ?_ (fun _ => ?_)
set_option maxHeartbeats 8000000 in
set_option maxRecDepth 100000 in
theorem impl_sums_debts.calls (k : Nat) (a0_0 : Vector Int 256) (r1 : List (S65)) (r2 : Int) (w : World) (h : impl_sums_debts.f k a0_0 = some (r1, r2)) :
    Calls Try.prog 62 #[.agg (⟨Arr.arL .i64 a0_0⟩ : Array Value)] w fun e w' => ∃ v0_ : Value, e = .returned (.tuple #[v0_, .int .i64 r2]) ∧ Kd.R k65 65 w' w.heap.size (fun _ => True) v0_ r1 ∧ Below w.heap.size w w' := by
  have hu70 := Try.underlying70; have hu61 := Try.underlying61; have hu65 := Try.underlying65; have HB := A_ (Below.refl w.heap.size w); have H : (impl_sums_debts.l0 k (([] : List (S65))) 0 a0_0) = some (r1, r2) := h; clear h; obtain ⟨y210, hy210⟩ : ∃ y_ : List (S65), y_ = (([] : List (S65))) := ⟨_, rfl⟩; (replace H : (impl_sums_debts.l0 k y210 0 a0_0) = some (r1, r2) := by first | (rw [hy210]; with_reducible exact H) | (have H2_ := (Option.bind_some _ _).symm.trans H; rw [hy210]; with_reducible exact H2_) | (have H2_ := (Option.bind_some _ _).symm.trans H; with_reducible exact H2_) | with_reducible exact H | (rw [hy210]; exact H) | exact H); have Ny210 := A_ hy210; clear hy210; have H' := A_ H; clear H; go_enter Try.func62, Try.ntmps62; go_wp2_with (first | ((with_reducible refine gate_dst (N := 1) rfl ?_); refine box_event ?hg (N := 1) ?hd (cs := (⟨Arr.arL .i64 a0_0⟩ : Array Value)) (t := 70) ?hr ?_; (case hd => rfl); (case hg => rfl); (case hr => first | (go_simp; done) | (go_simp; rfl)); intro gb209 hg w3 hbox hb; have n0_ := A_ (below_step z0_ hb); have n1_ := A_ (hbox); have n2_ := A_ ((by rw [hg]; exact (below_size z0_) : w.heap.size ≤ gb209)); have n3_ := A_ ((by rw [hg]; exact (below_size z0_) : w.heap.size ≤ gb209)); clear HB; have HB := n0_; have BK209 := n1_; have GW209 := n2_; have GE209 := n3_; clear n0_ n1_ n2_ n3_; clear hb hbox hg) | ((with_reducible refine gate_dst (N := 9) rfl ?_); refine Kd.R_lit k65 _ 65 ?hg (N := 9) ?hd (xs := ([] : List (S65))) (inner := []) (ok := fun _ => True) (okp := fun _ => True) ?hr ?hp (fun _ hk => hk) trivial (Below.refl _ _) (Nat.le_refl _) (by simp) ?_; (case hd => rfl); (case hg => rfl); (case hr => first | (go_simp; done) | (go_simp; rfl)); (case hp => exact (Reps.none _ _)); intro v211 w4 ho5 hb hg_ hnew_; clear hg_ hnew_; (first | rw [← Ny210.out] at ho5 | (simp only [Int.reduceToNat] at ho5; rw [← Ny210.out] at ho5)); have n0_ := A_ (Kd.R_lower ho5 (below_size z37_)); have n1_ := A_ (blk_below (g := gb209) (o := .cells (⟨Arr.arL .i64 a0_0⟩ : Array Value) 70 (0, 0)) z32_ hb); have n2_ := A_ (below_step z37_ hb); clear BK209; clear HB; have HO212 := n0_; have BK209 := n1_; have HB := n2_; clear n0_ n1_ n2_; clear hb ho5) | ((with_reducible refine Arr.gate_load (t := 70) (p := 1) rfl ?_); (try (refine gate_guard (by rfl) ?_; dsimp only)); refine Arr.loadA ?hg (T := 70) (p := 1) ?ho (g := gb209) (off := 0) ?hx (t := 70) (l := (Arr.arL .i64 a0_0)) (m := (Arr.arL .i64 a0_0)) (fr := (0, 0)) (show w4.heap[gb209]? = some (.cells (⟨Arr.arL .i64 a0_0⟩ : Array Value) 70 (0, 0)) from z32_) rfl Try.underlying70 rfl (n := 256) z13_ z56_ ?_; (case hg => rfl); (case ho => rfl); (case hx => first | (go_simp; done) | rfl | (go_simp; rfl)))); go_loopg [4, 11] k (fun kq v4 v11 w' => ∃ (x4_1 : List (S65)) (x11_1 : Int), v11 = .int .i64 x11_1 ∧ Aside0 (impl_sums_debts.l0 kq x4_1 x11_1 a0_0 = some (r1, r2)) ∧ Aside0 (kq ≤ k) ∧ Aside0 (Kd.R k65 65 w' w.heap.size (fun _ => True) v4 x4_1) ∧ Aside0 (w'.heap[gb209]? = some (.cells (⟨Arr.arL .i64 a0_0⟩ : Array Value) 70 (0, 0))) ∧ Aside0 (Below w.heap.size w w'))
  case atStart => exact ⟨(y210), (0), z11_, H', ⟨Nat.le_refl _⟩, ⟨by (with_reducible repeat (first | apply Kd.R_alloc | apply Kd.R_drewN | apply Kd.R_drew)); exact HO212.out⟩, ⟨z32_⟩, ⟨z37_⟩⟩
  case round =>
    clear H'; (try clear p2); obtain ⟨x4_1, x11_1, rfl, HA, HK1, HO_4, BK209, HB⟩ := hrel
    cases gk with
    | zero => exact absurd HA.out (by simp [impl_sums_debts.l0])
    | succ k1 =>
      have H := HA.out; clear HA; simp only [impl_sums_debts.l0] at H; by_cases c6 : x11_1 < 16
      · rw [if_pos c6] at H; have c6b0 : decide (x11_1 < 16) = true := decide_eq_true c6; clear c6; by_cases c7 : 0 ≤ x11_1
        · rw [if_pos c7] at H; have c7b0 : decide (0 ≤ x11_1) = true := decide_eq_true c7; clear c7; have H' := A_ H; clear H; (have hx8 := fun W_ => Arr.index_row (m := 16) (k := .i64) (P := Try.prog) (w := W_) Try.underlying70 Try.underlying61 z13_ z13_ a0_0 x11_1 .i64 (of_decide_eq_true z3_) (of_decide_eq_true z3_)); have p8 : 0 ≤ (x11_1 : Int) := of_decide_eq_true z3_; have q8 : (x11_1 : Int) < 16 := of_decide_eq_true z3_; replace p8 := eq_true p8; replace q8 := eq_true q8; go_wp2_with (first | ((with_reducible refine gate_dst (N := 6) rfl ?_); refine box_event ?hg (N := 6) ?hd (cs := (⟨Arr.arL .i64 (Vector.replicate 16 0 : Vector Int 16)⟩ : Array Value)) (t := 61) ?hr ?_; (case hd => rfl); (case hg => rfl); (case hr => first | (go_simp; done) | (go_simp; rfl)); intro gb213 hg w11 hbox hb; have n0_ := A_ (Kd.R_below z14_ hb); have n1_ := A_ (blk_below (g := gb209) (o := .cells (⟨Arr.arL .i64 a0_0⟩ : Array Value) 70 (0, 0)) z32_ hb); have n2_ := A_ (below_step z37_ hb); have n3_ := A_ (hbox); have n4_ := A_ ((by rw [hg]; exact (below_size z37_) : w.heap.size ≤ gb213)); have n5_ := A_ ((by rw [hg]; exact (below_size z37_) : w.heap.size ≤ gb213)); have n6_ := A_ ((by rw [hg]; exact Nat.ne_of_lt (blk_lt (g := gb209) (o := .cells (⟨Arr.arL .i64 a0_0⟩ : Array Value) 70 (0, 0)) z32_) : gb209 ≠ gb213)); have n7_ := A_ ((by rw [hg]; exact Nat.ne_of_gt (blk_lt (g := gb209) (o := .cells (⟨Arr.arL .i64 a0_0⟩ : Array Value) 70 (0, 0)) z32_) : gb213 ≠ gb209)); clear HO_4; clear BK209; clear HB; have HO_4 := n0_; have BK209 := n1_; have HB := n2_; have BK213 := n3_; have GW213 := n4_; have GE213 := n5_; have NB209_213 := n6_; have NB213_209 := n7_; clear n0_ n1_ n2_ n3_ n4_ n5_ n6_ n7_; clear hb hbox hg) | ((with_reducible refine gate_store (t := 61) (p := 6) rfl ?_); refine Arr.storeA ?hg (T := 61) (p := 6) (v := ?vo_w12) ?ho ?hn (g := gb213) (off := 0) ?hx (m := (Arr.arL .i64 (Arr.vrow 16 a0_0 x11_1))) ?hy (t := 61) (pre := []) (old := (Arr.arL .i64 (Vector.replicate 16 0 : Vector Int 16))) (show w11.heap[gb213]? = some (.cells (⟨Arr.arL .i64 (Vector.replicate 16 0 : Vector Int 16)⟩ : Array Value) 61 (0, 0)) from z59_) rfl z56_ (n := 16) z13_ z56_ (Arr.ones_0 ) ?_; (case ho => rfl); (case hg => rfl); (case hn => rfl); (case hx => first | (go_simp; done) | rfl | (go_simp; rfl)); (case hy => first | (go_simp; done) | rfl | (go_simp; rfl)); intro w12 hbx hg hbe; replace hbx : w12.heap[gb213]? = some (.cells (⟨Arr.arL .i64 (Arr.vrow 16 a0_0 x11_1)⟩ : Array Value) 61 (0, 0)) := hbx; have n0_ := A_ (Kd.R_grown1 z14_ rfl hg (Kd.R_ne HO_4.out BK213.out (by decide))); have n1_ := A_ (blk_grown (g := gb209) (o := .cells (⟨Arr.arL .i64 a0_0⟩ : Array Value) 70 (0, 0)) z32_ hg (fun e_ => NB209_213.out (Option.some.inj e_))); have n2_ := A_ (hbx); have n3_ := A_ (hbe _ _ z31_ GE213.out); clear HO_4; clear BK209; clear BK213; clear HB; have HO_4 := n0_; have BK209 := n1_; have BK213 := n2_; have HB := n3_; clear n0_ n1_ n2_ n3_; (try clear hbx hg hbe)) | ((with_reducible refine Arr.gate_load (t := 61) (p := 6) rfl ?_); (try (refine gate_guard (by rfl) ?_; dsimp only)); refine Arr.loadA ?hg (T := 61) (p := 6) ?ho (g := gb213) (off := 0) ?hx (t := 61) (l := (Arr.arL .i64 (Arr.vrow 16 a0_0 x11_1))) (m := (Arr.arL .i64 (Arr.vrow 16 a0_0 x11_1))) (fr := (0, 0)) (show w12.heap[gb213]? = some (.cells (⟨Arr.arL .i64 (Arr.vrow 16 a0_0 x11_1)⟩ : Array Value) 61 (0, 0)) from z59_) rfl Try.underlying61 rfl (n := 16) z13_ z56_ ?_; (case hg => rfl); (case ho => rfl); (case hx => first | (go_simp; done) | rfl | (go_simp; rfl)))); go_loopg [4, 16] k1 (fun kq v4 v16 w' => ∃ (x4_2 : List (S65)) (x16_2 : Int), v16 = .int .i64 x16_2 ∧ Aside0 (impl_sums_debts.l1 kq x4_2 x11_1 x11_1 x16_2 a0_0 (Arr.vrow 16 a0_0 x11_1) = some (r1, r2)) ∧ Aside0 (kq ≤ k1) ∧ Aside0 (Kd.R k65 65 w' w.heap.size (fun _ => True) v4 x4_2) ∧ Aside0 (w'.heap[gb209]? = some (.cells (⟨Arr.arL .i64 a0_0⟩ : Array Value) 70 (0, 0))) ∧ Aside0 (w'.heap[gb213]? = some (.cells (⟨Arr.arL .i64 (Arr.vrow 16 a0_0 x11_1)⟩ : Array Value) 61 (0, 0))) ∧ Aside0 (Below w.heap.size w w'))
          case atStart => exact ⟨(x4_1), (0), z11_, H', ⟨Nat.le_refl _⟩, ⟨z14_⟩, ⟨z32_⟩, ⟨z59_⟩, ⟨z31_⟩⟩
          case round =>
            clear H'; (try clear p2); (try clear c6); (try clear c6b0); (try clear c7); (try clear c7b0); (try clear p8); (try clear q8); (try clear hx8); (try clear p2); (try clear p8); (try clear q8); obtain ⟨x4_2, x16_2, rfl, HA, HK2, HO_4, BK209, BK213, HB⟩ := hrel
            cases gk with
            | zero => exact absurd HA.out (by simp [impl_sums_debts.l1])
            | succ k2 =>
              have H := HA.out; clear HA; simp only [impl_sums_debts.l1] at H; by_cases c13 : x16_2 < 16
              · rw [if_pos c13] at H; have c13b0 : decide (x16_2 < 16) = true := decide_eq_true c13; clear c13; by_cases c14 : 0 ≤ x16_2
                · rw [if_pos c14] at H; have c14b0 : decide (0 ≤ x16_2) = true := decide_eq_true c14; clear c14; by_cases c16 : (Arr.vrd (Arr.vrow 16 a0_0 x11_1) x16_2) > 100000000
                  · rw [if_pos c16] at H; have c16b0 : decide (100000000 < (Arr.vrd (Arr.vrow 16 a0_0 x11_1) x16_2)) = true := decide_eq_true c16; clear c16; simp only [Option.some.injEq, Prod.mk.injEq] at H; obtain ⟨rfl, rfl⟩ := H; (have hx15 := fun W_ => Arr.index_arr (P := Try.prog) (w := W_) Try.underlying61 Try.underlying2 z13_ z13_ (Arr.vrow 16 a0_0 x11_1) x16_2 .i64 (of_decide_eq_true z3_) (of_decide_eq_true z3_)); have p15 : 0 ≤ (x16_2 : Int) := of_decide_eq_true z3_; have q15 : (x16_2 : Int) < 16 := of_decide_eq_true z3_; replace p15 := eq_true p15; replace q15 := eq_true q15; go_wp2; go_ret2; exact ⟨_, z10_, z23_, z31_⟩
                  · rw [if_neg c16] at H; have c16b0 : decide (100000000 < (Arr.vrd (Arr.vrow 16 a0_0 x11_1) x16_2)) = false := decide_eq_false c16; clear c16; by_cases c17 : (Arr.vrd (Arr.vrow 16 a0_0 x11_1) x16_2) > 0
                    · rw [if_pos c17] at H; have c17b0 : decide (0 < (Arr.vrd (Arr.vrow 16 a0_0 x11_1) x16_2)) = true := decide_eq_true c17; clear c17; by_cases c18 : x4_2.length < 5864062014805
                      · rw [if_pos c18] at H; have LMc18 := A_ c18; clear c18; obtain ⟨y214, hy214⟩ : ∃ y_ : List (S65), y_ = (x4_2 ++ [(⟨x11_1, x16_2, Arr.vrd (Arr.vrow 16 a0_0 x11_1) x16_2⟩ : S65)]) := ⟨_, rfl⟩; (replace H : (impl_sums_debts.l1 k2 y214 x11_1 x11_1 (wrap64 (x16_2 + 1)) a0_0 (Arr.vrow 16 a0_0 x11_1)) = some (r1, r2) := by first | (rw [hy214]; with_reducible exact H) | (have H2_ := (Option.bind_some _ _).symm.trans H; rw [hy214]; with_reducible exact H2_) | (have H2_ := (Option.bind_some _ _).symm.trans H; with_reducible exact H2_) | with_reducible exact H | (rw [hy214]; exact H) | exact H); have Ny214 := A_ hy214; clear hy214; have H' := A_ H; clear H; (have hx15 := fun W_ => Arr.index_arr (P := Try.prog) (w := W_) Try.underlying61 Try.underlying2 z13_ z13_ (Arr.vrow 16 a0_0 x11_1) x16_2 .i64 (of_decide_eq_true z3_) (of_decide_eq_true z3_)); have p15 : 0 ≤ (x16_2 : Int) := of_decide_eq_true z3_; have q15 : (x16_2 : Int) < 16 := of_decide_eq_true z3_; replace p15 := eq_true p15; replace q15 := eq_true q15; go_wp2_with (first | ((with_reducible refine gate_builtin (b := .append) (xs := #[.tmp 24, .tmp 29]) rfl ?_); at_builtin; refine Kd.R_append k65 (w0 := w) w.heap.size rfl (.tmp 24) (.tmp 29) 26 65 (.agg #[(.int .i64 0), (.int .i64 0), (.int .i64 0)]) 24 rfl Try.underlying26 info65 rfl (by decide) (by omega) u4 x4_2 (⟨x11_1, x16_2, Arr.vrd (Arr.vrow 16 a0_0 x11_1) x16_2⟩ : S65) [.int .i64 x11_1, .int .i64 x16_2, .int .i64 (Arr.vrd (Arr.vrow 16 a0_0 x11_1) x16_2)] (fun _ => True) (fun _ => False) rfl rfl ?aP (fun _ hk => hk.elim) ?aF ?aO ?aB ?aS ?aL ?_; (case aP => exact k65_mkM _ _ _ (⟨x11_1, x16_2, Arr.vrd (Arr.vrow 16 a0_0 x11_1) x16_2⟩ : S65)); (case aB => exact z31_); (case aF => exact (fun _ _ => trivial)); (case aO => exact z14_); (case aS => exact (below_size z31_)); (case aL => have := LMc18.out; omega); intro v215 w19 ho hb hg hat; rw [← Ny214.out] at ho; have n0_ := A_ (blk_grown (g := gb209) (o := .cells (⟨Arr.arL .i64 a0_0⟩ : Array Value) 70 (0, 0)) z32_ hg (Kd.R_ne HO_4.out BK209.out (by decide))); have n1_ := A_ (blk_grown (g := gb213) (o := .cells (⟨Arr.arL .i64 (Arr.vrow 16 a0_0 x11_1)⟩ : Array Value) 61 (0, 0)) z59_ hg (Kd.R_ne HO_4.out BK213.out (by decide))); have n2_ := A_ (hb); have n3_ := A_ (ho); clear BK209; clear BK213; clear HB; clear HO_4; have BK209 := n0_; have BK213 := n1_; have HB := n2_; have HO216 := n3_; clear n0_ n1_ n2_ n3_; clear ho hb hg hat)); go_roundg k2
                        case measure => have := HK1.out; have := HK2.out; omega
                        case rel => exact ⟨(y214), (wrap64 (x16_2 + 1)), z11_, H', ⟨z93_⟩, ⟨by (with_reducible repeat (first | apply Kd.R_alloc | apply Kd.R_drewN | apply Kd.R_drew)); exact HO216.out⟩, ⟨z32_⟩, ⟨z59_⟩, ⟨z31_⟩⟩
                      · rw [if_neg c18] at H; exact absurd H (by simp)
                    · rw [if_neg c17] at H; have c17b0 : decide (0 < (Arr.vrd (Arr.vrow 16 a0_0 x11_1) x16_2)) = false := decide_eq_false c17; clear c17; have H' := A_ H; clear H; (have hx15 := fun W_ => Arr.index_arr (P := Try.prog) (w := W_) Try.underlying61 Try.underlying2 z13_ z13_ (Arr.vrow 16 a0_0 x11_1) x16_2 .i64 (of_decide_eq_true z3_) (of_decide_eq_true z3_)); have p15 : 0 ≤ (x16_2 : Int) := of_decide_eq_true z3_; have q15 : (x16_2 : Int) < 16 := of_decide_eq_true z3_; replace p15 := eq_true p15; replace q15 := eq_true q15; go_wp2; go_roundg k2
                      case measure => have := HK1.out; have := HK2.out; omega
                      case rel => exact ⟨(x4_2), (wrap64 (x16_2 + 1)), z11_, H', ⟨z93_⟩, ⟨z14_⟩, ⟨z32_⟩, ⟨z59_⟩, ⟨z31_⟩⟩
                · rw [if_neg c14] at H; exact absurd H (by simp)
              · rw [if_neg c13] at H; have c13b0 : decide (x16_2 < 16) = false := decide_eq_false c13; clear c13; have H' := A_ H; clear H; go_wp2; go_roundg k2
                case measure => have := HK1.out; have := HK2.out; omega
                case rel => exact ⟨(x4_2), (wrap64 (x11_1 + 1)), z11_, H', ⟨z93_⟩, ⟨z14_⟩, ⟨z32_⟩, ⟨z31_⟩⟩
        · rw [if_neg c7] at H; exact absurd H (by simp)
      · rw [if_neg c6] at H; have c6b0 : decide (x11_1 < 16) = false := decide_eq_false c6; clear c6; by_cases c20 : (x4_1.length : Int) > 60
        · rw [if_pos c20] at H; have c20b0 : decide (60 < (x4_1.length : Int)) = true := decide_eq_true c20; have c20b1 : decide (60 < x4_1.length) = true := decide_eq_true (by omega); clear c20; simp only [Option.some.injEq, Prod.mk.injEq] at H; obtain ⟨rfl, rfl⟩ := H; obtain ⟨Ao21, co21, eo21⟩ := Kd.R_slice HO_4.out; subst eo21; go_wp2; go_ret2; exact ⟨_, z10_, z23_, z37_⟩
        · rw [if_neg c20] at H; have c20b0 : decide (60 < (x4_1.length : Int)) = false := decide_eq_false c20; have c20b1 : decide (60 < x4_1.length) = false := decide_eq_false (by omega); clear c20; simp only [Option.some.injEq, Prod.mk.injEq] at H; obtain ⟨rfl, rfl⟩ := H; obtain ⟨Ao22, co22, eo22⟩ := Kd.R_slice HO_4.out; subst eo22; go_wp2; go_ret2; exact ⟨_, z10_, z14_, z37_⟩

/-! ### impl_JoinDebts: function 21 -/
def impl_JoinDebts.f (k : Nat) (a0 : Int) (l1 : List (S65)) : Option ((List (S65)) × Int) := (impl_ValidDebts.f k a0 l1).bind fun t217 => (if t217 = true then ((impl_sumsOf.f k l1).bind fun t218 => ((impl_sums_debts.f k t218).bind fun bt219 => (some (bt219.1, bt219.2)))) else (some (([] : List (S65)), 1)))
theorem impl_JoinDebts.mono : ∀ a0 a1 k, LeO (impl_JoinDebts.f k a0 a1) (impl_JoinDebts.f (k + 1) a0 a1) := by
  intro a0 a1 k; unfold impl_JoinDebts.f
  repeat' first
      | (with_reducible exact impl_ValidDebts.mono _ _ _)
      | (with_reducible exact impl_sumsOf.mono _ _)
      | (with_reducible exact impl_sums_debts.mono _ _)
      | (with_reducible exact LeO.refl _)
      | (with_reducible exact LeO.none _)
      | (with_reducible refine LeO.ite ?_ ?_)
      | (with_reducible refine LeO.bind ?_ (fun _ => ?_))
      | exact impl_ValidDebts.mono _ _ _
      | exact impl_sumsOf.mono _ _
      | exact impl_sums_debts.mono _ _
      | exact LeO.none _
      | refine LeO.ite ?_ ?_
      | refine LeO.bind ?_ (fun _ => ?_)
set_option maxHeartbeats 8000000 in
set_option maxRecDepth 100000 in
theorem impl_JoinDebts.calls (k : Nat) (a0 : Int) (A1 : Option Addr) (c1 : Nat) (l1 : List (S65)) (r1 : List (S65)) (r2 : Int) (w : World) (hr1 : Kd.C k65 w A1 l1.length l1) (hc1 : l1.length ≤ c1) (h : impl_JoinDebts.f k a0 l1 = some (r1, r2)) :
    Calls Try.prog 21 #[.int .i64 a0, .slice A1 l1.length c1] w fun e w' => ∃ v0_ : Value, e = .returned (.tuple #[v0_, .int .i64 r2]) ∧ Kd.R k65 65 w' w.heap.size (fun _ => True) v0_ r1 ∧ Below w.heap.size w w' := by
  have HR1 := A_ hr1; have HC1 := A_ hc1; clear hr1 hc1; have HB := A_ (Below.refl w.heap.size w); have H : ((impl_ValidDebts.f k a0 l1).bind fun t217 => (if t217 = true then ((impl_sumsOf.f k l1).bind fun t218 => ((impl_sums_debts.f k t218).bind fun bt219 => (some (bt219.1, bt219.2)))) else (some (([] : List (S65)), 1)))) = some (r1, r2) := h; clear h; replace H := Option.bind_eq_some_iff.mp H; obtain ⟨t217, A30, H⟩ := H; replace H : (if t217 = true then ((impl_sumsOf.f k l1).bind fun t218 => ((impl_sums_debts.f k t218).bind fun bt219 => (some (bt219.1, bt219.2)))) else (some (([] : List (S65)), 1))) = some (r1, r2) := H; have A3 := A_ A30; clear A30; by_cases c4 : t217 = true
  · subst c4; (have H1 : ((impl_sumsOf.f k l1).bind fun t218 => ((impl_sums_debts.f k t218).bind fun bt219 => (some (bt219.1, bt219.2)))) = some (r1, r2) := z36_); clear H; have H := H1; clear H1; replace H := Option.bind_eq_some_iff.mp H; obtain ⟨t218, A50, H⟩ := H; replace H : ((impl_sums_debts.f k t218).bind fun bt219 => (some (bt219.1, bt219.2))) = some (r1, r2) := H; have A5 := A_ A50; clear A50; replace H := Option.bind_eq_some_iff.mp H; obtain ⟨⟨t219, t222⟩, A60, H⟩ := H; replace H : (some (t219, t222)) = some (r1, r2) := H; have A6 := A_ A60; clear A60; simp only [Option.some.injEq, Prod.mk.injEq] at H; obtain ⟨rfl, rfl⟩ := H; go_enter Try.func21, Try.ntmps21; go_wp2_with (first | ((with_reducible refine gate_callee (f := 61) rfl ?_); refine goesL_ (some 8) rfl rfl Try.func61 z13_ rfl #[.int .i64 a0, .slice A1 l1.length c1] rfl z2_ ?_; (with_reducible refine (impl_ValidDebts.calls k a0 _ _ l1 true _ ?side1 ?side2 A3.out).mono ?_); (case side1 => repeat (first | exact HR1.out | (with_reducible refine Kd.C_alloc ?_ _) | (with_reducible refine Kd.C_drewN ?_ _) | (with_reducible refine Kd.C_drew ?_))); (case side2 => exact HC1.out); rintro e w7 ⟨rfl, hb⟩; refine ⟨_, rfl, ?_⟩; have n0_ := A_ (below_step z0_ hb); clear HB; have HB := n0_; clear n0_; (try clear hb); (try clear hb2); (try clear hk); (try clear hi)) | ((with_reducible refine gate_callee (f := 57) rfl ?_); refine goesL_ (some 11) rfl rfl Try.func57 z13_ rfl #[.slice A1 l1.length c1] rfl z2_ ?_; (with_reducible refine (impl_sumsOf.calls k _ _ l1 t218 _ ?side1 ?side2 A5.out).mono ?_); (case side1 => repeat (first | exact (Kd.C_below HR1.out HB.out) | (with_reducible refine Kd.C_alloc ?_ _) | (with_reducible refine Kd.C_drewN ?_ _) | (with_reducible refine Kd.C_drew ?_))); (case side2 => exact HC1.out); rintro e w8 ⟨rfl, hb⟩; refine ⟨_, rfl, ?_⟩; have n0_ := A_ (below_step z0_ hb); clear HB; have HB := n0_; clear n0_; (try clear hb); (try clear hb2); (try clear hk); (try clear hi)) | ((with_reducible refine gate_callee (f := 62) rfl ?_); refine goesL_ (some 12) rfl rfl Try.func62 z13_ rfl #[.agg (⟨Arr.arL .i64 t218⟩ : Array Value)] rfl z2_ ?_; (with_reducible refine (impl_sums_debts.calls k t218 t219 t222 _ A6.out).mono ?_); rintro e w9 ⟨v220, rfl, ho0, hb⟩; refine ⟨_, rfl, ?_⟩; have n0_ := A_ (Kd.R_lower ho0 (below_size z0_)); have n1_ := A_ (below_step z0_ hb); clear HB; have HO221 := n0_; have HB := n1_; clear n0_ n1_; (try clear hb); (try clear hb2); (try clear hk); (try clear hi); (try clear ho0))); go_ret2; exact ⟨_, z10_, by (with_reducible repeat (first | apply Kd.R_alloc | apply Kd.R_drewN | apply Kd.R_drew)); exact HO221.out, z0_⟩
  · replace c4 := Bool.eq_false_iff.mpr c4; subst c4; (have H1 : (some (([] : List (S65)), 1)) = some (r1, r2) := z17_); clear H; have H := H1; clear H1; simp only [Option.some.injEq, Prod.mk.injEq] at H; obtain ⟨rfl, rfl⟩ := H; go_enter Try.func21, Try.ntmps21; go_wp2_with (first | ((with_reducible refine gate_callee (f := 61) rfl ?_); refine goesL_ (some 8) rfl rfl Try.func61 z13_ rfl #[.int .i64 a0, .slice A1 l1.length c1] rfl z2_ ?_; (with_reducible refine (impl_ValidDebts.calls k a0 _ _ l1 false _ ?side1 ?side2 A3.out).mono ?_); (case side1 => repeat (first | exact HR1.out | (with_reducible refine Kd.C_alloc ?_ _) | (with_reducible refine Kd.C_drewN ?_ _) | (with_reducible refine Kd.C_drew ?_))); (case side2 => exact HC1.out); rintro e w10 ⟨rfl, hb⟩; refine ⟨_, rfl, ?_⟩; have n0_ := A_ (below_step z0_ hb); clear HB; have HB := n0_; clear n0_; (try clear hb); (try clear hb2); (try clear hk); (try clear hi))); go_ret2; exact ⟨_, z10_, z23_, z0_⟩

/-! ### slices_Clone_int64_int64: function 79 -/
def slices_Clone_int64_int64.f (l0 : List Int) : Option (List Int) := (some (([] : List Int) : List Int)).bind fun y223 => (if y223.length + l0.length < 17592186044416 then (some (y223 ++ l0)) else (none))
set_option maxHeartbeats 8000000 in
set_option maxRecDepth 100000 in
theorem slices_Clone_int64_int64.calls (A0 : Option Addr) (c0 : Nat) (l0 : List Int) (r : List Int) (w : World) (hr0 : Kd.C (Kd.int .i64) w A0 l0.length l0) (hc0 : l0.length ≤ c0) (h : slices_Clone_int64_int64.f l0 = some r) :
    Calls Try.prog 79 #[.slice A0 l0.length c0] w fun e w' => ∃ v0_ : Value, e = .returned (v0_) ∧ Kd.R (Kd.int .i64) 2 w' w.heap.size (fun _ => True) v0_ r ∧ Below w.heap.size w w' := by
  rcases A0 with _ | A0
  · obtain rfl : l0 = [] := by
      cases l0 with
      | nil => rfl
      | cons a l => obtain ⟨ad, e, _⟩ := hr0.2.2 (by simp); cases e
    have hr : r = [] := by
      have h2 := h; simp [slices_Clone_int64_int64.f] at h2; first | exact h2 | exact h2.symm
    subst hr; (have hq_ := fun (w : World) (a : Option Addr) (n c n1 c1 : Nat) => Lib.run_eql_slice_nil (P := Try.prog) w 34 2 a n c n1 c1 Try.underlying34); go_enter Try.func79, Try.ntmps79; go_wp2; go_ret; exact ⟨_, rfl, Kd.R_nil _ _ _ _ _, by repeat (first | exact Below.refl _ _ | apply below_alloc | apply pw_below_drewN | apply below_drew1)⟩
  · (have hq_ := fun (w : World) (a : Option Addr) (n c n1 c1 : Nat) => Lib.run_eql_slice_nil (P := Try.prog) w 34 2 a n c n1 c1 Try.underlying34); have HR0 := A_ hr0; have HC0 := A_ hc0; clear hr0 hc0; have HB := A_ (Below.refl w.heap.size w); have H : ((some (([] : List Int) : List Int)).bind fun y223 => (if y223.length + l0.length < 17592186044416 then (some (y223 ++ l0)) else (none))) = some r := h; clear h; obtain ⟨y223, hy223⟩ : ∃ y_ : List Int, y_ = (([] : List Int)) := ⟨_, rfl⟩; (replace H : (if y223.length + l0.length < 17592186044416 then (some (y223 ++ l0)) else (none)) = some r := by first | (rw [hy223]; with_reducible exact H) | (have H2_ := (Option.bind_some _ _).symm.trans H; rw [hy223]; with_reducible exact H2_) | (have H2_ := (Option.bind_some _ _).symm.trans H; with_reducible exact H2_) | with_reducible exact H | (rw [hy223]; exact H) | exact H); have Ny223 := A_ hy223; clear hy223; by_cases c2 : y223.length + l0.length < 17592186044416
    · rw [if_pos c2] at H; have LMc2 := A_ c2; clear c2; obtain ⟨y226, hy226⟩ : ∃ y_ : List Int, y_ = (y223 ++ l0) := ⟨_, rfl⟩; (replace H : (some y226) = some r := by first | (rw [hy226]; with_reducible exact H) | (have H2_ := (Option.bind_some _ _).symm.trans H; rw [hy226]; with_reducible exact H2_) | (have H2_ := (Option.bind_some _ _).symm.trans H; with_reducible exact H2_) | with_reducible exact H | (rw [hy226]; exact H) | exact H); have Ny226 := A_ hy226; clear hy226; obtain rfl := Option.some.inj H; go_enter Try.func79, Try.ntmps79; go_wp2_with (first | ((with_reducible refine gate_dst (N := 5) rfl ?_); refine Kd.R_lit (Kd.int .i64) _ 2 ?hg (N := 5) ?hd (xs := ([] : List Int)) (inner := []) (ok := fun _ => True) (okp := fun _ => True) ?hr ?hp (fun _ hk => hk) trivial (Below.refl _ _) (Nat.le_refl _) (by simp) ?_; (case hd => rfl); (case hg => rfl); (case hr => first | (go_simp; done) | (go_simp; rfl)); (case hp => exact (Reps.none _ _)); intro v224 w3 ho4 hb hg_ hnew_; clear hg_ hnew_; (first | rw [← Ny223.out] at ho4 | (simp only [Int.reduceToNat] at ho4; rw [← Ny223.out] at ho4)); have n0_ := A_ (Kd.R_lower ho4 (below_size z0_)); have n1_ := A_ (below_step z0_ hb); clear HB; have HO225 := n0_; have HB := n1_; clear n0_ n1_; clear hb ho4) | ((with_reducible refine gate_builtin (b := .append) (xs := #[.tmp 5, .tmp 6]) rfl ?_); at_builtin; refine Kd.R_append_rows (Kd.int .i64) (w0 := w) w.heap.size rfl (.tmp 5) (.tmp 6) 34 2 (.int .i64 0) 8 rfl Try.underlying34 info2 rfl (by decide) (by omega) v224 y223 l0 _ _ _ (fun _ => True) (fun _ => False) rfl rfl ?aO ?aR (fun _ _ h => h) (fun _ h => h.elim) ?aF ?aB ?aS ?aL ?_; (case aR => repeat (first | exact (Kd.C_below HR0.out HB.out) | (with_reducible refine Kd.C_alloc ?_ _) | (with_reducible refine Kd.C_drewN ?_ _) | (with_reducible refine Kd.C_drew ?_))); (case aB => exact z0_); (case aF => exact (fun _ _ => trivial)); (case aO => exact (by (with_reducible repeat (first | apply Kd.R_alloc | apply Kd.R_drewN | apply Kd.R_drew)); exact HO225.out)); (case aS => exact (below_size z0_)); (case aL => have := LMc2.out; omega); intro v227 w5 ho hb hg hat; rw [← Ny226.out] at ho; have n0_ := A_ (hb); have n1_ := A_ (ho); clear HB; clear HO225; have HB := n0_; have HO228 := n1_; clear n0_ n1_; clear ho hb hg hat)); go_ret; exact ⟨_, z10_, by (with_reducible repeat (first | apply Kd.R_alloc | apply Kd.R_drewN | apply Kd.R_drew)); exact HO228.out, z0_⟩
    · rw [if_neg c2] at H; exact absurd H (by simp)

/-! ### slices_Index_int64_int64: function 88 -/
def slices_Index_int64_int64.l0 : Nat → List Int → Int → Int → Int → Option (Int)
  | 0, _, _, _, _ => none
  | k + 1, x0, x1, x7, x8 => if x8 < x7 then (if 0 ≤ x8 then (if x8 < (x0.length : Int) then (if x1 = (rd x0 x8) then (some x8) else (slices_Index_int64_int64.l0 k x0 x1 x7 (wrap64 (x8 + 1)))) else (none)) else (none)) else (some (-1))
def slices_Index_int64_int64.f (k : Nat) (l0 : List Int) (a1 : Int) : Option (Int) := slices_Index_int64_int64.l0 k l0 a1 (l0.length : Int) 0
theorem slices_Index_int64_int64.mono_l : ∀ k, (∀ y0 y1 y2 y3, LeO (slices_Index_int64_int64.l0 k y0 y1 y2 y3) (slices_Index_int64_int64.l0 (k + 1) y0 y1 y2 y3))
  | 0 => fun _ _ _ _ r h => by simp [slices_Index_int64_int64.l0] at h
  | k + 1 => by
    have ih0 := slices_Index_int64_int64.mono_l k
    · intro y0 y1 y2 y3
      unfold slices_Index_int64_int64.l0
      repeat' first
      | (with_reducible exact ih0 _ _ _ _)
      | (with_reducible exact LeO.refl _)
      | (with_reducible exact LeO.none _)
      | (with_reducible refine LeO.ite ?_ ?_)
      | (with_reducible refine LeO.bind ?_ (fun _ => ?_))
      | exact ih0 _ _ _ _
      | exact LeO.none _
      | refine LeO.ite ?_ ?_
      | refine LeO.bind ?_ (fun _ => ?_)
theorem slices_Index_int64_int64.mono : ∀ a0 a1 k, LeO (slices_Index_int64_int64.f k a0 a1) (slices_Index_int64_int64.f (k + 1) a0 a1) := by
  intro a0 a1 k; have ih0 := slices_Index_int64_int64.mono_l k; unfold slices_Index_int64_int64.f
  repeat' first
      | (with_reducible exact ih0 _ _ _ _)
      | (with_reducible exact LeO.refl _)
      | (with_reducible exact LeO.none _)
      | (with_reducible refine LeO.ite ?_ ?_)
      | (with_reducible refine LeO.bind ?_ (fun _ => ?_))
      | exact ih0 _ _ _ _
      | exact LeO.none _
      | refine LeO.ite ?_ ?_
      | refine LeO.bind ?_ (fun _ => ?_)
set_option maxHeartbeats 8000000 in
set_option maxRecDepth 100000 in
theorem slices_Index_int64_int64.calls (k : Nat) (A0 : Option Addr) (c0 : Nat) (l0 : List Int) (a1 : Int) (r : Int) (w : World) (hr0 : Kd.C (Kd.int .i64) w A0 l0.length l0) (hc0 : l0.length ≤ c0) (h : slices_Index_int64_int64.f k l0 a1 = some r) :
    Calls Try.prog 88 #[.slice A0 l0.length c0, .int .i64 a1] w fun e w' => e = .returned (.int .i64 r) ∧ Drawn0 w w' := by
  have HR0 := A_ hr0; have HC0 := A_ hc0; clear hr0 hc0; have H : (slices_Index_int64_int64.l0 k l0 a1 (l0.length : Int) 0) = some r := h; clear h; have H' := A_ H; clear H; go_enter Try.func88, Try.ntmps88; go_wp2; go_loopg [8] k (fun kq v8 w' => ∃ (x8_1 : Int), v8 = .int .i64 x8_1 ∧ Aside0 (slices_Index_int64_int64.l0 kq l0 a1 (l0.length : Int) x8_1 = some r) ∧ Aside0 (kq ≤ k) ∧ Drawn0 w w')
  case atStart => exact ⟨(0), z11_, H', ⟨Nat.le_refl _⟩, z21_⟩
  case round =>
    clear H'; (try clear p2); obtain ⟨x8_1, rfl, HA, HK1, ⟨m1, rfl⟩⟩ := hrel
    cases gk with
    | zero => exact absurd HA.out (by simp [slices_Index_int64_int64.l0])
    | succ k1 =>
      have H := HA.out; clear HA; simp only [slices_Index_int64_int64.l0] at H; by_cases c3 : x8_1 < (l0.length : Int)
      · rw [if_pos c3] at H; have c3b0 : decide (x8_1 < (l0.length : Int)) = true := decide_eq_true c3; clear c3; by_cases c4 : 0 ≤ x8_1
        · rw [if_pos c4] at H; have c4b0 : decide (0 ≤ x8_1) = true := decide_eq_true c4; clear c4; by_cases c5 : x8_1 < (l0.length : Int)
          · rw [if_pos c5] at H; have c5b0 : decide (x8_1 < (l0.length : Int)) = true := decide_eq_true c5; clear c5; by_cases c6 : a1 = (rd l0 x8_1)
            · rw [if_pos c6] at H; have c6b0 : (a1 == (rd l0 x8_1)) = true := beq_iff_eq.mpr c6; have c6b1 : (a1 != (rd l0 x8_1)) = false := bne_eq_false_iff_eq.mpr c6; clear c6; obtain rfl := Option.some.inj H; have p229 : 0 ≤ (x8_1 : Int) := of_decide_eq_true z3_; have q229 : x8_1 < (l0.length : Int) := of_decide_eq_true z3_; obtain ⟨ad229, e229, hx229_0⟩ := Kd.at_int HR0.out x8_1 p229 q229; cases e229; replace p229 := eq_true p229; replace q229 := eq_true q229; go_wp2; go_ret; exact ⟨z11_, z21_⟩
            · rw [if_neg c6] at H; have c6b0 : (a1 == (rd l0 x8_1)) = false := beq_eq_false_iff_ne.mpr c6; have c6b1 : (a1 != (rd l0 x8_1)) = true := bne_iff_ne.mpr c6; have H' := A_ H; clear H; have p229 : 0 ≤ (x8_1 : Int) := of_decide_eq_true z3_; have q229 : x8_1 < (l0.length : Int) := of_decide_eq_true z3_; obtain ⟨ad229, e229, hx229_0⟩ := Kd.at_int HR0.out x8_1 p229 q229; cases e229; replace p229 := eq_true p229; replace q229 := eq_true q229; go_wp2; go_roundg k1
              case measure => have := HK1.out; omega
              case rel => exact ⟨(wrap64 (x8_1 + 1)), z11_, H', ⟨z46_⟩, z21_⟩
          · rw [if_neg c5] at H; exact absurd H (by simp)
        · rw [if_neg c4] at H; exact absurd H (by simp)
      · rw [if_neg c3] at H; have c3b0 : decide (x8_1 < (l0.length : Int)) = false := decide_eq_false c3; clear c3; obtain rfl := Option.some.inj H; go_wp2; go_ret; exact ⟨z11_, z21_⟩

/-! ### slices_Contains_int64_int64: function 86 -/
def slices_Contains_int64_int64.f (k : Nat) (l0 : List Int) (a1 : Int) : Option (Bool) := (slices_Index_int64_int64.f k l0 a1).bind fun t230 => (some (decide (t230 ≥ 0)))
theorem slices_Contains_int64_int64.mono : ∀ a0 a1 k, LeO (slices_Contains_int64_int64.f k a0 a1) (slices_Contains_int64_int64.f (k + 1) a0 a1) := by
  intro a0 a1 k; unfold slices_Contains_int64_int64.f
  repeat' first
      | (with_reducible exact slices_Index_int64_int64.mono _ _ _)
      | (with_reducible exact LeO.refl _)
      | (with_reducible exact LeO.none _)
      | (with_reducible refine LeO.ite ?_ ?_)
      | (with_reducible refine LeO.bind ?_ (fun _ => ?_))
      | exact slices_Index_int64_int64.mono _ _ _
      | exact LeO.none _
      | refine LeO.ite ?_ ?_
      | refine LeO.bind ?_ (fun _ => ?_)
set_option maxHeartbeats 8000000 in
set_option maxRecDepth 100000 in
theorem slices_Contains_int64_int64.calls (k : Nat) (A0 : Option Addr) (c0 : Nat) (l0 : List Int) (a1 : Int) (r : Bool) (w : World) (hr0 : Kd.C (Kd.int .i64) w A0 l0.length l0) (hc0 : l0.length ≤ c0) (h : slices_Contains_int64_int64.f k l0 a1 = some r) :
    Calls Try.prog 86 #[.slice A0 l0.length c0, .int .i64 a1] w fun e w' => e = .returned (.bool r) ∧ Drawn0 w w' := by
  have HR0 := A_ hr0; have HC0 := A_ hc0; clear hr0 hc0; have H : ((slices_Index_int64_int64.f k l0 a1).bind fun t230 => (some (decide (t230 ≥ 0)))) = some r := h; clear h; replace H := Option.bind_eq_some_iff.mp H; obtain ⟨t230, A30, H⟩ := H; replace H : (some (decide (t230 ≥ 0))) = some r := H; have A3 := A_ A30; clear A30; obtain rfl := Option.some.inj H; go_enter Try.func86, Try.ntmps86; go_wp2_with (first | ((with_reducible refine gate_callee (f := 88) rfl ?_); refine goesL_ (some 7) rfl rfl Try.func88 z13_ rfl #[.slice A0 l0.length c0, .int .i64 a1] rfl z2_ ?_; (with_reducible refine (slices_Index_int64_int64.calls k _ _ l0 a1 t230 _ ?side1 ?side2 A3.out).mono ?_); (case side1 => repeat (first | exact HR0.out | (with_reducible refine Kd.C_alloc ?_ _) | (with_reducible refine Kd.C_drewN ?_ _) | (with_reducible refine Kd.C_drew ?_))); (case side2 => exact HC0.out); rintro e w' ⟨rfl, ⟨nd, rfl⟩⟩; refine ⟨_, rfl, ?_⟩)); go_ret; exact ⟨z11_, z21_⟩

end Go.Proofs.Ytofcgkcpkngocaa.MCircles
