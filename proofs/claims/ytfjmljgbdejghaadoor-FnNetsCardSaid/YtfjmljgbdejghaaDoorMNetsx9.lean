-- by a program of this session, for this claim
import Derived.Test.YtfjmljgbdejghaaDoorMNetsx0
import Derived.Test.YtfjmljgbdejghaaDoorMNetsx2
import Derived.Test.YtfjmljgbdejghaaDoorMNetsx8
namespace Go.Proofs.YtfjmljgbdejghaaDoor.MNets
open Go.RowKit Go.Proofs.YtfjmljgbdejghaaDoorW.PrintWords Go.Proofs.YtfjmljgbdejghaaDoorW.PrintLast Go.Proofs.YtfjmljgbdejghaaDoorW.PrintMore
attribute [local go_sem] max2_int min2_int max_two min_two max_three min_three max_four min_four   -- for this text's walks alone
set_option linter.unusedVariables false
set_option linter.unusedSimpArgs false

/-! ### impl_sums_debts: function 92 -/
mutual
def impl_sums_debts.l0 : Nat → List (S77) → Int → Vector Int 256 → Option ((List (S77)) × Int)
  | 0, _, _, _ => none
  | k + 1, x4, x11, x501 => if x11 < 16 then (if 0 ≤ x11 then (impl_sums_debts.l1 k x4 x11 x11 0 x501 (Arr.vrow 16 x501 x11)) else (none)) else (if (x4.length : Int) > 60 then (some (([] : List (S77)), 3)) else (some (x4, 0)))
def impl_sums_debts.l1 : Nat → List (S77) → Int → Int → Int → Vector Int 256 → Vector Int 16 → Option ((List (S77)) × Int)
  | 0, _, _, _, _, _, _ => none
  | k + 1, x4, x5, x11, x16, x501, x503 => if x16 < 16 then (if 0 ≤ x16 then (if (Arr.vrd x503 x16) > 100000000 then (some (([] : List (S77)), 3)) else (if (Arr.vrd x503 x16) > 0 then (if x4.length < 5864062014805 then (impl_sums_debts.l1 k (x4 ++ [(⟨x5, x16, Arr.vrd x503 x16⟩ : S77)]) x5 x11 (wrap64 (x16 + 1)) x501 x503) else (none)) else (impl_sums_debts.l1 k x4 x5 x11 (wrap64 (x16 + 1)) x501 x503))) else (none)) else (impl_sums_debts.l0 k x4 (wrap64 (x11 + 1)) x501)
end
def impl_sums_debts.f (k : Nat) (a0_0 : Vector Int 256) : Option ((List (S77)) × Int) := impl_sums_debts.l0 k (([] : List (S77))) 0 a0_0
theorem impl_sums_debts.mono_l : ∀ k, (∀ y0 y1 y2, LeO (impl_sums_debts.l0 k y0 y1 y2) (impl_sums_debts.l0 (k + 1) y0 y1 y2)) ∧ (∀ y0 y1 y2 y3 y4 y5, LeO (impl_sums_debts.l1 k y0 y1 y2 y3 y4 y5) (impl_sums_debts.l1 (k + 1) y0 y1 y2 y3 y4 y5))
  | 0 => ⟨fun _ _ _ r h => by simp [impl_sums_debts.l0] at h, fun _ _ _ _ _ _ r h => by simp [impl_sums_debts.l1] at h⟩
  | k + 1 => by
    obtain ⟨ih0, ih1⟩ := impl_sums_debts.mono_l k
    refine ⟨?_, ?_⟩
    · intro y0 y1 y2
      unfold impl_sums_debts.l0
      repeat' first
      | (with_reducible exact ih0 _ _ _)
      | (with_reducible exact ih1 _ _ _ _ _ _)
      | (with_reducible exact LeO.refl _)
      | (with_reducible exact LeO.none _)
      | (with_reducible refine LeO.ite ?_ ?_)
      | (with_reducible refine LeO.bind ?_ (fun _ => ?_))
      | exact ih0 _ _ _
      | exact ih1 _ _ _ _ _ _
      | exact LeO.none _
      | refine LeO.ite ?_ ?_
      | refine LeO.bind ?_ (fun _ => ?_)
    · intro y0 y1 y2 y3 y4 y5
      unfold impl_sums_debts.l1
      repeat' first
      | (with_reducible exact ih0 _ _ _)
      | (with_reducible exact ih1 _ _ _ _ _ _)
      | (with_reducible exact LeO.refl _)
      | (with_reducible exact LeO.none _)
      | (with_reducible refine LeO.ite ?_ ?_)
      | (with_reducible refine LeO.bind ?_ (fun _ => ?_))
      | exact ih0 _ _ _
      | exact ih1 _ _ _ _ _ _
      | exact LeO.none _
      | refine LeO.ite ?_ ?_
      | refine LeO.bind ?_ (fun _ => ?_)
theorem impl_sums_debts.mono : ∀ a0 k, LeO (impl_sums_debts.f k a0) (impl_sums_debts.f (k + 1) a0) := by
  intro a0 k; obtain ⟨ih0, ih1⟩ := impl_sums_debts.mono_l k; unfold impl_sums_debts.f
  repeat' first
      | (with_reducible exact ih0 _ _ _)
      | (with_reducible exact ih1 _ _ _ _ _ _)
      | (with_reducible exact LeO.refl _)
      | (with_reducible exact LeO.none _)
      | (with_reducible refine LeO.ite ?_ ?_)
      | (with_reducible refine LeO.bind ?_ (fun _ => ?_))
      | exact ih0 _ _ _
      | exact ih1 _ _ _ _ _ _
      | exact LeO.none _
      | refine LeO.ite ?_ ?_
      | refine LeO.bind ?_ (fun _ => ?_)
set_option maxHeartbeats 8000000 in
set_option maxRecDepth 100000 in
theorem impl_sums_debts.calls (k : Nat) (a0_0 : Vector Int 256) (r1 : List (S77)) (r2 : Int) (w : World) (h : impl_sums_debts.f k a0_0 = some (r1, r2)) :
    Calls Tryd.prog 92 #[.agg (⟨Arr.arL .i64 a0_0⟩ : Array Value)] w fun e w' => ∃ v0_ : Value, e = .returned (.tuple #[v0_, .int .i64 r2]) ∧ Kd.R k77 77 w' w.heap.size (fun _ => True) v0_ r1 ∧ Below w.heap.size w w' := by
  have hu112 := Tryd.underlying112; have hu110 := Tryd.underlying110; have hu77 := Tryd.underlying77; have HB := Aside0.mk (Below.refl w.heap.size w); have H : (impl_sums_debts.l0 k (([] : List (S77))) 0 a0_0) = some (r1, r2) := h; clear h; obtain ⟨y255, hy255⟩ : ∃ y_ : List (S77), y_ = (([] : List (S77))) := ⟨_, rfl⟩; (replace H : (impl_sums_debts.l0 k y255 0 a0_0) = some (r1, r2) := by first | (rw [hy255]; with_reducible exact H) | (have H2_ := (Option.bind_some _ _).symm.trans H; rw [hy255]; with_reducible exact H2_) | (have H2_ := (Option.bind_some _ _).symm.trans H; with_reducible exact H2_) | with_reducible exact H | (rw [hy255]; exact H) | exact H); have Ny255 := Aside0.mk hy255; clear hy255; have H' := Aside0.mk H; clear H; go_enter Tryd.func92, Tryd.ntmps92; go_wp2_with (first | ((with_reducible refine gate_dst (N := 1) rfl ?_); refine box_event ?hg (N := 1) ?hd (cs := (⟨Arr.arL .i64 a0_0⟩ : Array Value)) (t := 112) ?hr ?_; (case hd => rfl); (case hg => rfl); (case hr => first | (go_simp; done) | (go_simp; rfl)); intro gb254 hg w3 hbox hb; have n0_ := Aside0.mk (below_step z0_ hb); have n1_ := Aside0.mk (hbox); have n2_ := Aside0.mk ((by rw [hg]; exact (below_size z0_) : w.heap.size ≤ gb254)); have n3_ := Aside0.mk ((by rw [hg]; exact (below_size z0_) : w.heap.size ≤ gb254)); clear HB; have HB := n0_; have BK254 := n1_; have GW254 := n2_; have GE254 := n3_; clear n0_ n1_ n2_ n3_; clear hb hbox hg) | ((with_reducible refine gate_dst (N := 9) rfl ?_); refine Kd.R_lit k77 _ 77 ?hg (N := 9) ?hd (xs := ([] : List (S77))) (inner := []) (ok := fun _ => True) (okp := fun _ => True) ?hr ?hp (fun _ hk => hk) trivial (Below.refl _ _) (Nat.le_refl _) (by simp) ?_; (case hd => rfl); (case hg => rfl); (case hr => first | (go_simp; done) | (go_simp; rfl)); (case hp => exact (Reps.none _ _)); intro v256 w4 ho5 hb hg_ hnew_; clear hg_ hnew_; (first | rw [← Ny255.out] at ho5 | (simp only [Int.reduceToNat] at ho5; rw [← Ny255.out] at ho5)); have n0_ := Aside0.mk (Kd.R_lower ho5 (below_size z33_)); have n1_ := Aside0.mk (blk_below (g := gb254) (o := .cells (⟨Arr.arL .i64 a0_0⟩ : Array Value) 112 (0, 0)) z29_ hb); have n2_ := Aside0.mk (below_step z33_ hb); clear BK254; clear HB; have HO257 := n0_; have BK254 := n1_; have HB := n2_; clear n0_ n1_ n2_; clear hb ho5) | ((with_reducible refine Arr.gate_load (t := 112) (p := 1) rfl ?_); (try (refine gate_guard (by rfl) ?_; dsimp only)); refine Arr.loadA ?hg (T := 112) (p := 1) ?ho (g := gb254) (off := 0) ?hx (t := 112) (l := (Arr.arL .i64 a0_0)) (m := (Arr.arL .i64 a0_0)) (fr := (0, 0)) (show w4.heap[gb254]? = some (.cells (⟨Arr.arL .i64 a0_0⟩ : Array Value) 112 (0, 0)) from z29_) rfl Tryd.underlying112 rfl (n := 256) z4_ z68_ ?_; (case hg => rfl); (case ho => rfl); (case hx => first | (go_simp; done) | rfl | (go_simp; rfl)))); go_loopg [4, 11] k (fun kq v4 v11 w' => ∃ (x4_1 : List (S77)) (x11_1 : Int), v11 = .int .i64 x11_1 ∧ Aside0 (impl_sums_debts.l0 kq x4_1 x11_1 a0_0 = some (r1, r2)) ∧ Aside0 (kq ≤ k) ∧ Aside0 (Kd.R k77 77 w' w.heap.size (fun _ => True) v4 x4_1) ∧ Aside0 (w'.heap[gb254]? = some (.cells (⟨Arr.arL .i64 a0_0⟩ : Array Value) 112 (0, 0))) ∧ Aside0 (Below w.heap.size w w'))
  case atStart => exact ⟨(y255), (0), z5_, H', ⟨Nat.le_refl _⟩, ⟨by (with_reducible repeat (first | apply Kd.R_alloc | apply Kd.R_drewN | apply Kd.R_drew)); exact HO257.out⟩, ⟨z29_⟩, ⟨z33_⟩⟩
  case round =>
    clear H'; (try clear p2); obtain ⟨x4_1, x11_1, rfl, HA, HK1, HO_4, BK254, HB⟩ := hrel
    cases gk with
    | zero => exact absurd HA.out (by simp [impl_sums_debts.l0])
    | succ k1 =>
      have H := HA.out; clear HA; simp only [impl_sums_debts.l0] at H; by_cases c6 : x11_1 < 16
      ·rw [if_pos c6] at H; have c6b0 : decide (x11_1 < 16) = true := decide_eq_true c6; clear c6; by_cases c7 : 0 ≤ x11_1
       ·rw [if_pos c7] at H; have c7b0 : decide (0 ≤ x11_1) = true := decide_eq_true c7; clear c7; have H' := Aside0.mk H; clear H; (have hx8 := fun W_ => Arr.index_row (m := 16) (k := .i64) (P := Tryd.prog) (w := W_) Tryd.underlying112 Tryd.underlying110 z4_ z4_ a0_0 x11_1 .i64 (of_decide_eq_true z2_) (of_decide_eq_true z2_)); have p8 : 0 ≤ (x11_1 : Int) := of_decide_eq_true z2_; have q8 : (x11_1 : Int) < 16 := of_decide_eq_true z2_; replace p8 := eq_true p8; replace q8 := eq_true q8; go_wp2_with (first | ((with_reducible refine gate_dst (N := 6) rfl ?_); refine box_event ?hg (N := 6) ?hd (cs := (⟨Arr.arL .i64 (Vector.replicate 16 0 : Vector Int 16)⟩ : Array Value)) (t := 110) ?hr ?_; (case hd => rfl); (case hg => rfl); (case hr => first | (go_simp; done) | (go_simp; rfl)); intro gb258 hg w11 hbox hb; have n0_ := Aside0.mk (Kd.R_below z7_ hb); have n1_ := Aside0.mk (blk_below (g := gb254) (o := .cells (⟨Arr.arL .i64 a0_0⟩ : Array Value) 112 (0, 0)) z29_ hb); have n2_ := Aside0.mk (below_step z33_ hb); have n3_ := Aside0.mk (hbox); have n4_ := Aside0.mk ((by rw [hg]; exact (below_size z33_) : w.heap.size ≤ gb258)); have n5_ := Aside0.mk ((by rw [hg]; exact (below_size z33_) : w.heap.size ≤ gb258)); have n6_ := Aside0.mk ((by rw [hg]; exact Nat.ne_of_lt (blk_lt (g := gb254) (o := .cells (⟨Arr.arL .i64 a0_0⟩ : Array Value) 112 (0, 0)) z29_) : gb254 ≠ gb258)); have n7_ := Aside0.mk ((by rw [hg]; exact Nat.ne_of_gt (blk_lt (g := gb254) (o := .cells (⟨Arr.arL .i64 a0_0⟩ : Array Value) 112 (0, 0)) z29_) : gb258 ≠ gb254)); clear HO_4; clear BK254; clear HB; have HO_4 := n0_; have BK254 := n1_; have HB := n2_; have BK258 := n3_; have GW258 := n4_; have GE258 := n5_; have NB254_258 := n6_; have NB258_254 := n7_; clear n0_ n1_ n2_ n3_ n4_ n5_ n6_ n7_; clear hb hbox hg) | ((with_reducible refine gate_store (t := 110) (p := 6) rfl ?_); refine Arr.storeA ?hg (T := 110) (p := 6) (v := ?vo_w12) ?ho ?hn (g := gb258) (off := 0) ?hx (m := (Arr.arL .i64 (Arr.vrow 16 a0_0 x11_1))) ?hy (t := 110) (pre := []) (old := (Arr.arL .i64 (Vector.replicate 16 0 : Vector Int 16))) (show w11.heap[gb258]? = some (.cells (⟨Arr.arL .i64 (Vector.replicate 16 0 : Vector Int 16)⟩ : Array Value) 110 (0, 0)) from z48_) rfl z68_ (n := 16) z4_ z68_ (Arr.ones_0 ) ?_; (case ho => rfl); (case hg => rfl); (case hn => rfl); (case hx => first | (go_simp; done) | rfl | (go_simp; rfl)); (case hy => first | (go_simp; done) | rfl | (go_simp; rfl)); intro w12 hbx hg hbe; replace hbx : w12.heap[gb258]? = some (.cells (⟨Arr.arL .i64 (Arr.vrow 16 a0_0 x11_1)⟩ : Array Value) 110 (0, 0)) := hbx; have n0_ := Aside0.mk (Kd.R_grown1 z7_ rfl hg (Kd.R_ne HO_4.out BK258.out (by decide))); have n1_ := Aside0.mk (blk_grown (g := gb254) (o := .cells (⟨Arr.arL .i64 a0_0⟩ : Array Value) 112 (0, 0)) z29_ hg (fun e_ => NB254_258.out (Option.some.inj e_))); have n2_ := Aside0.mk (hbx); have n3_ := Aside0.mk (hbe _ _ z27_ GE258.out); clear HO_4; clear BK254; clear BK258; clear HB; have HO_4 := n0_; have BK254 := n1_; have BK258 := n2_; have HB := n3_; clear n0_ n1_ n2_ n3_; (try clear hbx hg hbe)) | ((with_reducible refine Arr.gate_load (t := 110) (p := 6) rfl ?_); (try (refine gate_guard (by rfl) ?_; dsimp only)); refine Arr.loadA ?hg (T := 110) (p := 6) ?ho (g := gb258) (off := 0) ?hx (t := 110) (l := (Arr.arL .i64 (Arr.vrow 16 a0_0 x11_1))) (m := (Arr.arL .i64 (Arr.vrow 16 a0_0 x11_1))) (fr := (0, 0)) (show w12.heap[gb258]? = some (.cells (⟨Arr.arL .i64 (Arr.vrow 16 a0_0 x11_1)⟩ : Array Value) 110 (0, 0)) from z48_) rfl Tryd.underlying110 rfl (n := 16) z4_ z68_ ?_; (case hg => rfl); (case ho => rfl); (case hx => first | (go_simp; done) | rfl | (go_simp; rfl)))); go_loopg [4, 16] k1 (fun kq v4 v16 w' => ∃ (x4_2 : List (S77)) (x16_2 : Int), v16 = .int .i64 x16_2 ∧ Aside0 (impl_sums_debts.l1 kq x4_2 x11_1 x11_1 x16_2 a0_0 (Arr.vrow 16 a0_0 x11_1) = some (r1, r2)) ∧ Aside0 (kq ≤ k1) ∧ Aside0 (Kd.R k77 77 w' w.heap.size (fun _ => True) v4 x4_2) ∧ Aside0 (w'.heap[gb254]? = some (.cells (⟨Arr.arL .i64 a0_0⟩ : Array Value) 112 (0, 0))) ∧ Aside0 (w'.heap[gb258]? = some (.cells (⟨Arr.arL .i64 (Arr.vrow 16 a0_0 x11_1)⟩ : Array Value) 110 (0, 0))) ∧ Aside0 (Below w.heap.size w w'))
        case atStart => exact ⟨(x4_1), (0), z5_, H', ⟨Nat.le_refl _⟩, ⟨z7_⟩, ⟨z29_⟩, ⟨z48_⟩, ⟨z27_⟩⟩
        case round =>
          clear H'; (try clear p2); (try clear c6); (try clear c6b0); (try clear c7); (try clear c7b0); (try clear p8); (try clear q8); (try clear hx8); (try clear c9); (try clear p2); (try clear p8); (try clear q8); obtain ⟨x4_2, x16_2, rfl, HA, HK2, HO_4, BK254, BK258, HB⟩ := hrel
          cases gk with
          | zero => exact absurd HA.out (by simp [impl_sums_debts.l1])
          | succ k2 =>
            have H := HA.out; clear HA; simp only [impl_sums_debts.l1] at H; by_cases c13 : x16_2 < 16
            ·rw [if_pos c13] at H; have c13b0 : decide (x16_2 < 16) = true := decide_eq_true c13; clear c13; by_cases c14 : 0 ≤ x16_2
             ·rw [if_pos c14] at H; have c14b0 : decide (0 ≤ x16_2) = true := decide_eq_true c14; clear c14; by_cases c16 : (Arr.vrd (Arr.vrow 16 a0_0 x11_1) x16_2) > 100000000
              ·rw [if_pos c16] at H; have c16b0 : decide (100000000 < (Arr.vrd (Arr.vrow 16 a0_0 x11_1) x16_2)) = true := decide_eq_true c16; clear c16; simp only [Option.some.injEq, Prod.mk.injEq] at H; obtain ⟨rfl, rfl⟩ := H; (have hx15 := fun W_ => Arr.index_arr (P := Tryd.prog) (w := W_) Tryd.underlying110 Tryd.underlying2 z4_ z4_ (Arr.vrow 16 a0_0 x11_1) x16_2 .i64 (of_decide_eq_true z2_) (of_decide_eq_true z2_)); have p15 : 0 ≤ (x16_2 : Int) := of_decide_eq_true z2_; have q15 : (x16_2 : Int) < 16 := of_decide_eq_true z2_; replace p15 := eq_true p15; replace q15 := eq_true q15; go_wp2; go_ret2; exact ⟨_, z3_, z23_, z27_⟩
              ·rw [if_neg c16] at H; have c16b0 : decide (100000000 < (Arr.vrd (Arr.vrow 16 a0_0 x11_1) x16_2)) = false := decide_eq_false c16; clear c16; by_cases c17 : (Arr.vrd (Arr.vrow 16 a0_0 x11_1) x16_2) > 0
               ·rw [if_pos c17] at H; have c17b0 : decide (0 < (Arr.vrd (Arr.vrow 16 a0_0 x11_1) x16_2)) = true := decide_eq_true c17; clear c17; by_cases c18 : x4_2.length < 5864062014805
                ·rw [if_pos c18] at H; have LMc18 := Aside0.mk c18; clear c18; obtain ⟨y259, hy259⟩ : ∃ y_ : List (S77), y_ = (x4_2 ++ [(⟨x11_1, x16_2, Arr.vrd (Arr.vrow 16 a0_0 x11_1) x16_2⟩ : S77)]) := ⟨_, rfl⟩; (replace H : (impl_sums_debts.l1 k2 y259 x11_1 x11_1 (wrap64 (x16_2 + 1)) a0_0 (Arr.vrow 16 a0_0 x11_1)) = some (r1, r2) := by first | (rw [hy259]; with_reducible exact H) | (have H2_ := (Option.bind_some _ _).symm.trans H; rw [hy259]; with_reducible exact H2_) | (have H2_ := (Option.bind_some _ _).symm.trans H; with_reducible exact H2_) | with_reducible exact H | (rw [hy259]; exact H) | exact H); have Ny259 := Aside0.mk hy259; clear hy259; have H' := Aside0.mk H; clear H; (have hx15 := fun W_ => Arr.index_arr (P := Tryd.prog) (w := W_) Tryd.underlying110 Tryd.underlying2 z4_ z4_ (Arr.vrow 16 a0_0 x11_1) x16_2 .i64 (of_decide_eq_true z2_) (of_decide_eq_true z2_)); have p15 : 0 ≤ (x16_2 : Int) := of_decide_eq_true z2_; have q15 : (x16_2 : Int) < 16 := of_decide_eq_true z2_; replace p15 := eq_true p15; replace q15 := eq_true q15; go_wp2_with (first | ((with_reducible refine gate_builtin (b := .append) (xs := #[.tmp 24, .tmp 29]) rfl ?_); at_builtin; refine Kd.R_append k77 (w0 := w) w.heap.size rfl (.tmp 24) (.tmp 29) 28 77 (.agg #[(.int .i64 0), (.int .i64 0), (.int .i64 0)]) 24 rfl Tryd.underlying28 info77 rfl (by decide) (by omega) u4 x4_2 (⟨x11_1, x16_2, Arr.vrd (Arr.vrow 16 a0_0 x11_1) x16_2⟩ : S77) [.int .i64 x11_1, .int .i64 x16_2, .int .i64 (Arr.vrd (Arr.vrow 16 a0_0 x11_1) x16_2)] (fun _ => True) (fun _ => False) rfl rfl ?aP (fun _ hk => hk.elim) ?aF ?aO ?aB ?aS ?aL ?_; (case aP => exact k77_mkM _ _ _ (⟨x11_1, x16_2, Arr.vrd (Arr.vrow 16 a0_0 x11_1) x16_2⟩ : S77)); (case aB => exact z27_); (case aF => exact (fun _ _ => trivial)); (case aO => exact z7_); (case aS => exact (below_size z27_)); (case aL => have := LMc18.out; omega); intro v260 w19 ho hb hg hat; rw [← Ny259.out] at ho; have n0_ := Aside0.mk (blk_grown (g := gb254) (o := .cells (⟨Arr.arL .i64 a0_0⟩ : Array Value) 112 (0, 0)) z29_ hg (Kd.R_ne HO_4.out BK254.out (by decide))); have n1_ := Aside0.mk (blk_grown (g := gb258) (o := .cells (⟨Arr.arL .i64 (Arr.vrow 16 a0_0 x11_1)⟩ : Array Value) 110 (0, 0)) z48_ hg (Kd.R_ne HO_4.out BK258.out (by decide))); have n2_ := Aside0.mk (hb); have n3_ := Aside0.mk (ho); clear BK254; clear BK258; clear HB; clear HO_4; have BK254 := n0_; have BK258 := n1_; have HB := n2_; have HO261 := n3_; clear n0_ n1_ n2_ n3_; clear ho hb hg hat)); go_roundg k2
                 case measure => have := HK1.out; have := HK2.out; omega
                 case rel => exact ⟨(y259), (wrap64 (x16_2 + 1)), z5_, H', ⟨z57_⟩, ⟨by (with_reducible repeat (first | apply Kd.R_alloc | apply Kd.R_drewN | apply Kd.R_drew)); exact HO261.out⟩, ⟨z29_⟩, ⟨z48_⟩, ⟨z27_⟩⟩
                ·rw [if_neg c18] at H; exact absurd H (by simp)
               ·rw [if_neg c17] at H; have c17b0 : decide (0 < (Arr.vrd (Arr.vrow 16 a0_0 x11_1) x16_2)) = false := decide_eq_false c17; clear c17; have H' := Aside0.mk H; clear H; (have hx15 := fun W_ => Arr.index_arr (P := Tryd.prog) (w := W_) Tryd.underlying110 Tryd.underlying2 z4_ z4_ (Arr.vrow 16 a0_0 x11_1) x16_2 .i64 (of_decide_eq_true z2_) (of_decide_eq_true z2_)); have p15 : 0 ≤ (x16_2 : Int) := of_decide_eq_true z2_; have q15 : (x16_2 : Int) < 16 := of_decide_eq_true z2_; replace p15 := eq_true p15; replace q15 := eq_true q15; go_wp2; go_roundg k2
                case measure => have := HK1.out; have := HK2.out; omega
                case rel => exact ⟨(x4_2), (wrap64 (x16_2 + 1)), z5_, H', ⟨z57_⟩, ⟨z7_⟩, ⟨z29_⟩, ⟨z48_⟩, ⟨z27_⟩⟩
             ·rw [if_neg c14] at H; exact absurd H (by simp)
            ·rw [if_neg c13] at H; have c13b0 : decide (x16_2 < 16) = false := decide_eq_false c13; clear c13; have H' := Aside0.mk H; clear H; go_wp2; go_roundg k2
             case measure => have := HK1.out; have := HK2.out; omega
             case rel => exact ⟨(x4_2), (wrap64 (x11_1 + 1)), z5_, H', ⟨z57_⟩, ⟨z7_⟩, ⟨z29_⟩, ⟨z27_⟩⟩
       ·rw [if_neg c7] at H; exact absurd H (by simp)
      ·rw [if_neg c6] at H; have c6b0 : decide (x11_1 < 16) = false := decide_eq_false c6; clear c6; by_cases c20 : (x4_1.length : Int) > 60
       ·rw [if_pos c20] at H; have c20b0 : decide (60 < (x4_1.length : Int)) = true := decide_eq_true c20; have c20b1 : decide (60 < x4_1.length) = true := decide_eq_true (by omega); clear c20; simp only [Option.some.injEq, Prod.mk.injEq] at H; obtain ⟨rfl, rfl⟩ := H; obtain ⟨Ao21, co21, eo21⟩ := Kd.R_slice HO_4.out; subst eo21; go_wp2; go_ret2; exact ⟨_, z3_, z23_, z33_⟩
       ·rw [if_neg c20] at H; have c20b0 : decide (60 < (x4_1.length : Int)) = false := decide_eq_false c20; have c20b1 : decide (60 < x4_1.length) = false := decide_eq_false (by omega); clear c20; simp only [Option.some.injEq, Prod.mk.injEq] at H; obtain ⟨rfl, rfl⟩ := H; obtain ⟨Ao22, co22, eo22⟩ := Kd.R_slice HO_4.out; subst eo22; go_wp2; go_ret2; exact ⟨_, z3_, z7_, z33_⟩

/-! ### impl_JoinDebts: function 42 -/
def impl_JoinDebts.f (k : Nat) (a0 : Int) (l1 : List (S77)) : Option ((List (S77)) × Int) := (impl_ValidDebts.f k a0 l1).bind fun t262 => (if t262 = true then ((impl_sumsOf.f k l1).bind fun t263 => ((impl_sums_debts.f k t263).bind fun bt264 => (some (bt264.1, bt264.2)))) else (some (([] : List (S77)), 1)))
theorem impl_JoinDebts.mono : ∀ a0 a1 k, LeO (impl_JoinDebts.f k a0 a1) (impl_JoinDebts.f (k + 1) a0 a1) := by
  intro a0 a1 k; unfold impl_JoinDebts.f
  repeat' first
      | (with_reducible exact impl_ValidDebts.mono _ _ _)
      | (with_reducible exact impl_sumsOf.mono _ _)
      | (with_reducible exact impl_sums_debts.mono _ _)
      | (with_reducible exact LeO.refl _)
      | (with_reducible exact LeO.none _)
      | (with_reducible refine LeO.ite ?_ ?_)
      | (with_reducible refine LeO.bind ?_ (fun _ => ?_))
      | exact impl_ValidDebts.mono _ _ _
      | exact impl_sumsOf.mono _ _
      | exact impl_sums_debts.mono _ _
      | exact LeO.none _
      | refine LeO.ite ?_ ?_
      | refine LeO.bind ?_ (fun _ => ?_)
set_option maxHeartbeats 8000000 in
set_option maxRecDepth 100000 in
theorem impl_JoinDebts.calls (k : Nat) (a0 : Int) (A1 : Option Addr) (c1 : Nat) (l1 : List (S77)) (r1 : List (S77)) (r2 : Int) (w : World) (hr1 : Kd.C k77 w A1 l1.length l1) (hc1 : l1.length ≤ c1) (h : impl_JoinDebts.f k a0 l1 = some (r1, r2)) :
    Calls Tryd.prog 42 #[.int .i64 a0, .slice A1 l1.length c1] w fun e w' => ∃ v0_ : Value, e = .returned (.tuple #[v0_, .int .i64 r2]) ∧ Kd.R k77 77 w' w.heap.size (fun _ => True) v0_ r1 ∧ Below w.heap.size w w' := by
  have HR1 := Aside0.mk hr1; have HC1 := Aside0.mk hc1; clear hr1 hc1; have HB := Aside0.mk (Below.refl w.heap.size w); have H : ((impl_ValidDebts.f k a0 l1).bind fun t262 => (if t262 = true then ((impl_sumsOf.f k l1).bind fun t263 => ((impl_sums_debts.f k t263).bind fun bt264 => (some (bt264.1, bt264.2)))) else (some (([] : List (S77)), 1)))) = some (r1, r2) := h; clear h; replace H := Option.bind_eq_some_iff.mp H; obtain ⟨t262, A30, H⟩ := H; replace H : (if t262 = true then ((impl_sumsOf.f k l1).bind fun t263 => ((impl_sums_debts.f k t263).bind fun bt264 => (some (bt264.1, bt264.2)))) else (some (([] : List (S77)), 1))) = some (r1, r2) := H; have A3 := Aside0.mk A30; clear A30; by_cases c4 : t262 = true
  ·subst c4; (have H1 : ((impl_sumsOf.f k l1).bind fun t263 => ((impl_sums_debts.f k t263).bind fun bt264 => (some (bt264.1, bt264.2)))) = some (r1, r2) := z39_); clear H; have H := H1; clear H1; replace H := Option.bind_eq_some_iff.mp H; obtain ⟨t263, A50, H⟩ := H; replace H : ((impl_sums_debts.f k t263).bind fun bt264 => (some (bt264.1, bt264.2))) = some (r1, r2) := H; have A5 := Aside0.mk A50; clear A50; replace H := Option.bind_eq_some_iff.mp H; obtain ⟨⟨t264, t267⟩, A60, H⟩ := H; replace H : (some (t264, t267)) = some (r1, r2) := H; have A6 := Aside0.mk A60; clear A60; simp only [Option.some.injEq, Prod.mk.injEq] at H; obtain ⟨rfl, rfl⟩ := H; go_enter Tryd.func42, Tryd.ntmps42; go_wp2_with (first | ((with_reducible refine gate_callee (f := 50) rfl ?_); refine goesL_ (some 8) rfl rfl Tryd.func50 z4_ rfl #[.int .i64 a0, .slice A1 l1.length c1] rfl z1_ ?_; (with_reducible refine (impl_ValidDebts.calls k a0 _ _ l1 true _ ?side1 ?side2 A3.out).mono ?_); (case side1 => repeat (first | exact HR1.out | (with_reducible refine Kd.C_alloc ?_ _) | (with_reducible refine Kd.C_drewN ?_ _) | (with_reducible refine Kd.C_drew ?_))); (case side2 => exact HC1.out); rintro e w7 ⟨rfl, hb⟩; refine ⟨_, rfl, ?_⟩; have n0_ := Aside0.mk (below_step z0_ hb); clear HB; have HB := n0_; clear n0_; (try clear hb); (try clear hb2); (try clear hk); (try clear hi)) | ((with_reducible refine gate_callee (f := 91) rfl ?_); refine goesL_ (some 11) rfl rfl Tryd.func91 z4_ rfl #[.slice A1 l1.length c1] rfl z1_ ?_; (with_reducible refine (impl_sumsOf.calls k _ _ l1 t263 _ ?side1 ?side2 A5.out).mono ?_); (case side1 => repeat (first | exact (Kd.C_below HR1.out HB.out) | (with_reducible refine Kd.C_alloc ?_ _) | (with_reducible refine Kd.C_drewN ?_ _) | (with_reducible refine Kd.C_drew ?_))); (case side2 => exact HC1.out); rintro e w8 ⟨rfl, hb⟩; refine ⟨_, rfl, ?_⟩; have n0_ := Aside0.mk (below_step z0_ hb); clear HB; have HB := n0_; clear n0_; (try clear hb); (try clear hb2); (try clear hk); (try clear hi)) | ((with_reducible refine gate_callee (f := 92) rfl ?_); refine goesL_ (some 12) rfl rfl Tryd.func92 z4_ rfl #[.agg (⟨Arr.arL .i64 t263⟩ : Array Value)] rfl z1_ ?_; (with_reducible refine (impl_sums_debts.calls k t263 t264 t267 _ A6.out).mono ?_); rintro e w9 ⟨v265, rfl, ho0, hb⟩; refine ⟨_, rfl, ?_⟩; have n0_ := Aside0.mk (Kd.R_lower ho0 (below_size z0_)); have n1_ := Aside0.mk (below_step z0_ hb); clear HB; have HO266 := n0_; have HB := n1_; clear n0_ n1_; (try clear hb); (try clear hb2); (try clear hk); (try clear hi); (try clear ho0))); go_ret2; exact ⟨_, z3_, by (with_reducible repeat (first | apply Kd.R_alloc | apply Kd.R_drewN | apply Kd.R_drew)); exact HO266.out, z0_⟩
  ·replace c4 := Bool.eq_false_iff.mpr c4; subst c4; (have H1 : (some (([] : List (S77)), 1)) = some (r1, r2) := z17_); clear H; have H := H1; clear H1; simp only [Option.some.injEq, Prod.mk.injEq] at H; obtain ⟨rfl, rfl⟩ := H; go_enter Tryd.func42, Tryd.ntmps42; go_wp2_with (first | ((with_reducible refine gate_callee (f := 50) rfl ?_); refine goesL_ (some 8) rfl rfl Tryd.func50 z4_ rfl #[.int .i64 a0, .slice A1 l1.length c1] rfl z1_ ?_; (with_reducible refine (impl_ValidDebts.calls k a0 _ _ l1 false _ ?side1 ?side2 A3.out).mono ?_); (case side1 => repeat (first | exact HR1.out | (with_reducible refine Kd.C_alloc ?_ _) | (with_reducible refine Kd.C_drewN ?_ _) | (with_reducible refine Kd.C_drew ?_))); (case side2 => exact HC1.out); rintro e w10 ⟨rfl, hb⟩; refine ⟨_, rfl, ?_⟩; have n0_ := Aside0.mk (below_step z0_ hb); clear HB; have HB := n0_; clear n0_; (try clear hb); (try clear hb2); (try clear hk); (try clear hi))); go_ret2; exact ⟨_, z3_, z23_, z0_⟩

/-- A state of type 146 at block g of W; what its slices lead to came in by w0. -/
def IsS146 (w0 W : World) (g : Nat) (f0 : Vector Int 256) : Prop := W.heap[g]? = some (.cells (⟨Arr.arL .i64 f0⟩ : Array Value) 146 (0, 0)) ∧ w0.heap.size ≤ g
theorem IsS146.grown {w0 W : World} {g : Nat} {f0 : Vector Int 256} {W1 : World} {row : Option Nat} (h : IsS146 w0 W g f0) (hw : W.grownBy W1 row) (hne : some g ≠ row) : IsS146 w0 W1 g f0 := by
  obtain ⟨hb, hg⟩ := h; exact ⟨blk_grown hb hw hne, hg⟩
theorem IsS146.own_neN {w0 W : World} {g : Nat} {f0 : Vector Int 256} {α : Type} {d : Kd α} {e : Nat} {base : Nat} {ok : Nat → Prop} {v : Value} {xs : List α} (h : IsS146 w0 W g f0) (ho : Kd.N d e W base ok v xs) (ht : e ≠ 146) : some g ≠ v.ownBlock := by
  obtain ⟨hb, hg⟩ := h; exact Kd.N_ne ho hb ht
theorem IsS146.fresh {w0 W : World} {g : Nat} {f0 : Vector Int 256} (h : IsS146 w0 W g f0) : ∀ k, W.heap.size ≤ k → k ≠ g := by
  obtain ⟨hb, hg⟩ := h; exact Kd.freshB hb
theorem IsS146.kept {w0 W : World} {g : Nat} {f0 : Vector Int 256} {W1 : World} {S : Nat → Prop} (h : IsS146 w0 W g f0) (hk : Kept W W1 S) (hne : ¬ S g) : IsS146 w0 W1 g f0 := by
  obtain ⟨hb, hg⟩ := h; exact ⟨blk_kept hb hk hne, hg⟩
theorem IsS146.below {w0 W : World} {g : Nat} {f0 : Vector Int 256} {W1 : World} (h : IsS146 w0 W g f0) (hw : Below W.heap.size W W1) : IsS146 w0 W1 g f0 := h.grown (grown_of_below hw none) (by simp)
theorem IsS146.alloc {w0 W : World} {g : Nat} {f0 : Vector Int 256} (h : IsS146 w0 W g f0) (o : Obj) : IsS146 w0 (W.alloc o) g f0 := h.below (below_alloc (Below.refl _ _) o)
theorem IsS146.drewN {w0 W : World} {g : Nat} {f0 : Vector Int 256} (h : IsS146 w0 W g f0) (m : Nat) : IsS146 w0 (W.drewN m) g f0 := h
theorem IsS146.drew {w0 W : World} {g : Nat} {f0 : Vector Int 256} (h : IsS146 w0 W g f0) : IsS146 w0 W.drew g f0 := h
theorem IsS146.at_ {w0 W : World} {g : Nat} {f0 : Vector Int 256} {w' : World} {m : Nat} (hq : W.drewN m = w') (h : IsS146 w0 W g f0) : IsS146 w0 w' g f0 := by subst hq; exact IsS146.drewN h m
theorem IsS146.apart {w0 W : World} {g : Nat} {f0 : Vector Int 256} {α : Type} {d : Kd α} {e : Nat} {base : Nat} {ok : Nat → Prop} {v : Value} {xs : List α} (h : IsS146 w0 W g f0) (ho : d.R e W base ok v xs) (ht : ∀ q, q ∈ e :: d.E → q ≠ 146) : d.R e W base (fun k => ok k ∧ k ≠ g) v xs := by
  obtain ⟨hb, hg⟩ := h; exact Kd.R_types ho hb ht
theorem IsS146.own_ne {w0 W : World} {g : Nat} {f0 : Vector Int 256} {α : Type} {d : Kd α} {e : Nat} {base : Nat} {ok : Nat → Prop} {v : Value} {xs : List α} (h : IsS146 w0 W g f0) (ho : d.R e W base ok v xs) (ht : e ≠ 146) : some g ≠ v.ownBlock := by
  obtain ⟨hb, hg⟩ := h; exact Kd.R_ne ho hb ht
theorem IsS146.apartQ {w0 W : World} {g : Nat} {f0 : Vector Int 256} {α : Type} {d : Kd α} {e : Nat} {base : Nat} {ok : Nat → Prop} {v : Value} {xs : List α} (h : IsS146 w0 W g f0) (ho : d.Q e W base ok v xs) (ht : ∀ q, q ∈ e :: d.E → q ≠ 146) : d.Q e W base (fun k => ok k ∧ k ≠ g) v xs := by
  obtain ⟨hb, hg⟩ := h; exact Kd.Q_types ho hb ht
theorem IsS146.own_neQ {w0 W : World} {g : Nat} {f0 : Vector Int 256} {α : Type} {d : Kd α} {e : Nat} {base : Nat} {ok : Nat → Prop} {v : Value} {xs : List α} (h : IsS146 w0 W g f0) (ho : d.Q e W base ok v xs) (ht : e ≠ 146) : some g ≠ v.ownBlock := by
  obtain ⟨hb, hg⟩ := h; exact Kd.Q_ne ho hb ht
theorem IsS146.apartS {w0 W : World} {g : Nat} {f0 : Vector Int 256} {α : Type} {d : Kd α} {e : Nat} {base : Nat} {ok : Nat → Prop} {v : Value} {xs : List α} (h : IsS146 w0 W g f0) (ho : d.S e W base ok v xs) (ht : ∀ q, q ∈ e :: d.E → q ≠ 146) : d.S e W base (fun k => ok k ∧ k ≠ g) v xs := by
  obtain ⟨hb, hg⟩ := h; exact Kd.S_types ho hb ht
theorem IsS146.own_neS {w0 W : World} {g : Nat} {f0 : Vector Int 256} {α : Type} {d : Kd α} {e : Nat} {base : Nat} {ok : Nat → Prop} {v : Value} {xs : List α} (h : IsS146 w0 W g f0) (ho : d.S e W base ok v xs) (ht : e ≠ 146) : some g ≠ v.ownBlock := by
  obtain ⟨hb, hg⟩ := h; exact Kd.S_ne ho hb ht
theorem IsS146.lt {w0 W : World} {g : Nat} {f0 : Vector Int 256} (h : IsS146 w0 W g f0) : g < W.heap.size := by
  obtain ⟨hb, hg⟩ := h; exact blk_lt hb
theorem IsS146.ge {w0 W : World} {g : Nat} {f0 : Vector Int 256} (h : IsS146 w0 W g f0) : w0.heap.size ≤ g := by
  obtain ⟨hb, hg⟩ := h; exact hg
theorem IsS146.ne_blk {w0 W : World} {g : Nat} {f0 : Vector Int 256} {a : Nat} {cs : Array Value} {t : TypeId} {fr : Nat × Nat} (h : IsS146 w0 W g f0) (hb2 : W.heap[a]? = some (.cells cs t fr)) (ht : t ≠ 146) : g ≠ a := by
  obtain ⟨hb, hg⟩ := h; rintro rfl; rw [hb] at hb2; injection hb2 with hb2; injection hb2 with _ ht2; exact ht ht2.symm
theorem IsS146.far {w0 W : World} {g : Nat} {f0 : Vector Int 256} {p : Addr} (h : IsS146 w0 W g f0) (hne : g ≠ p.block) (u : Value) : IsS146 w0 (W.setCell p u) g f0 := by
  obtain ⟨hb, hg⟩ := h; exact ⟨blk_far hb hne u, hg⟩
theorem IsS146.new (w0 W : World) (f0 : Vector Int 256) (hB : Below w0.heap.size w0 W) : IsS146 w0 (W.alloc (.cells (⟨Arr.arL .i64 f0⟩ : Array Value) 146)) W.heap.size f0 := ⟨by simpa using heap_alloc_new W _, hB.size⟩

/-! ### spec_l02List: function 93 -/
mutual
def spec_l02List.l0 : Nat → List (S77) → Int → Vector Int 256 → Option ((List (S77)) × Int × Vector Int 256)
  | 0, _, _, _ => none
  | k + 1, x4, x5, x1000 => if x5 < 16 then (spec_l02List.l1 k x4 x5 0 x1000) else (if (x4.length : Int) > 60 then (some ((([] : List (S77))), 3, x1000)) else (some (x4, 0, x1000)))
def spec_l02List.l1 : Nat → List (S77) → Int → Int → Vector Int 256 → Option ((List (S77)) × Int × Vector Int 256)
  | 0, _, _, _, _ => none
  | k + 1, x4, x5, x6, x1000 => if x6 < 16 then (if 0 ≤ x5 then (if x5 < 16 then (if 0 ≤ x6 then (if (Arr.vrd2 16 x1000 x5 x6) > 100000000 then (some ((([] : List (S77))), 3, x1000)) else (if (Arr.vrd2 16 x1000 x5 x6) > 0 then (if x4.length < 5864062014805 then (spec_l02List.l1 k (x4 ++ [(⟨x5, x6, Arr.vrd2 16 x1000 x5 x6⟩ : S77)]) x5 (wrap64 (x6 + 1)) x1000) else (none)) else (spec_l02List.l1 k x4 x5 (wrap64 (x6 + 1)) x1000))) else (none)) else (none)) else (none)) else (spec_l02List.l0 k x4 (wrap64 (x5 + 1)) x1000)
end
def spec_l02List.f (k : Nat) (s0_0 : Vector Int 256) : Option ((List (S77)) × Int × Vector Int 256) := spec_l02List.l0 k (([] : List (S77))) 0 s0_0
theorem spec_l02List.mono_l : ∀ k, (∀ y0 y1 y2, LeO (spec_l02List.l0 k y0 y1 y2) (spec_l02List.l0 (k + 1) y0 y1 y2)) ∧ (∀ y0 y1 y2 y3, LeO (spec_l02List.l1 k y0 y1 y2 y3) (spec_l02List.l1 (k + 1) y0 y1 y2 y3))
  | 0 => ⟨fun _ _ _ r h => by simp [spec_l02List.l0] at h, fun _ _ _ _ r h => by simp [spec_l02List.l1] at h⟩
  | k + 1 => by
    obtain ⟨ih0, ih1⟩ := spec_l02List.mono_l k
    refine ⟨?_, ?_⟩
    · intro y0 y1 y2
      unfold spec_l02List.l0
      repeat' first
      | (with_reducible exact ih0 _ _ _)
      | (with_reducible exact ih1 _ _ _ _)
      | (with_reducible exact LeO.refl _)
      | (with_reducible exact LeO.none _)
      | (with_reducible refine LeO.ite ?_ ?_)
      | (with_reducible refine LeO.bind ?_ (fun _ => ?_))
      | exact ih0 _ _ _
      | exact ih1 _ _ _ _
      | exact LeO.none _
      | refine LeO.ite ?_ ?_
      | refine LeO.bind ?_ (fun _ => ?_)
    · intro y0 y1 y2 y3
      unfold spec_l02List.l1
      repeat' first
      | (with_reducible exact ih0 _ _ _)
      | (with_reducible exact ih1 _ _ _ _)
      | (with_reducible exact LeO.refl _)
      | (with_reducible exact LeO.none _)
      | (with_reducible refine LeO.ite ?_ ?_)
      | (with_reducible refine LeO.bind ?_ (fun _ => ?_))
      | exact ih0 _ _ _
      | exact ih1 _ _ _ _
      | exact LeO.none _
      | refine LeO.ite ?_ ?_
      | refine LeO.bind ?_ (fun _ => ?_)
theorem spec_l02List.mono : ∀ a0 k, LeO (spec_l02List.f k a0) (spec_l02List.f (k + 1) a0) := by
  intro a0 k; obtain ⟨ih0, ih1⟩ := spec_l02List.mono_l k; unfold spec_l02List.f
  repeat' first
      | (with_reducible exact ih0 _ _ _)
      | (with_reducible exact ih1 _ _ _ _)
      | (with_reducible exact LeO.refl _)
      | (with_reducible exact LeO.none _)
      | (with_reducible refine LeO.ite ?_ ?_)
      | (with_reducible refine LeO.bind ?_ (fun _ => ?_))
      | exact ih0 _ _ _
      | exact ih1 _ _ _ _
      | exact LeO.none _
      | refine LeO.ite ?_ ?_
      | refine LeO.bind ?_ (fun _ => ?_)
set_option maxHeartbeats 8000000 in
set_option maxRecDepth 100000 in
theorem spec_l02List.calls (k : Nat) (g : Nat) (s0_0 : Vector Int 256) (r1 : List (S77)) (r2 : Int) (r3 : Vector Int 256) (w0 w : World) (hI : IsS146 w0 w g s0_0) (hB : Below w0.heap.size w0 w) (h : spec_l02List.f k s0_0 = some (r1, r2, r3)) :
    Calls Tryd.prog 93 #[.pointer (some ⟨g, 0, none⟩)] w fun e w' => ∃ v0_ : Value, e = .returned (.tuple #[v0_, .int .i64 r2]) ∧ Kd.R k77 77 w' w.heap.size (fun _ => True) v0_ r1 ∧ IsS146 w0 w' g r3 ∧ Below w0.heap.size w0 w' ∧ KeepBut w w' g none := by
  have hu77 := Tryd.underlying77; have HI0 := Aside0.mk hI; have HK := Aside0.mk (KeepBut.refl w g none); have HL := Aside0.mk hB.size; clear hI; have HW0 := Aside0.mk hB.size; have HB := Aside0.mk hB; clear hB; have H : (spec_l02List.l0 k (([] : List (S77))) 0 s0_0) = some (r1, r2, r3) := h; clear h; obtain ⟨y268, hy268⟩ : ∃ y_ : List (S77), y_ = (([] : List (S77))) := ⟨_, rfl⟩; (replace H : (spec_l02List.l0 k y268 0 s0_0) = some (r1, r2, r3) := by first | (rw [hy268]; with_reducible exact H) | (have H2_ := (Option.bind_some _ _).symm.trans H; rw [hy268]; with_reducible exact H2_) | (have H2_ := (Option.bind_some _ _).symm.trans H; with_reducible exact H2_) | with_reducible exact H | (rw [hy268]; exact H) | exact H); have Ny268 := Aside0.mk hy268; clear hy268; have H' := Aside0.mk H; clear H; go_enter Tryd.func93, Tryd.ntmps93; go_wp2_with (first | ((with_reducible refine gate_dst (N := 7) rfl ?_); refine Kd.R_lit k77 _ 77 ?hg (N := 7) ?hd (xs := ([] : List (S77))) (inner := []) (ok := fun _ => True) (okp := fun _ => True) ?hr ?hp (fun _ hk => hk) trivial (Below.refl _ _) (Nat.le_refl _) (by simp) ?_; (case hd => rfl); (case hg => rfl); (case hr => first | (go_simp; done) | (go_simp; rfl)); (case hp => exact (Reps.none _ _)); intro v269 w2 ho3 hb hg_ hnew_; clear hg_ hnew_; (first | rw [← Ny268.out] at ho3 | (simp only [Int.reduceToNat] at ho3; rw [← Ny268.out] at ho3)); have n0_ := Aside0.mk (Kd.R_lower ho3 (keep_size (w := w) (g := g) (row := none) z6_)); have n1_ := Aside0.mk (IsS146.below z8_ hb); have n2_ := Aside0.mk (KeepBut.trans z6_ (KeepBut.of_below hb g none) (.inl rfl)); have n3_ := Aside0.mk (below_step z16_ hb); clear HI0; clear HK; clear HB; have HO270 := n0_; have HI0 := n1_; have HK := n2_; have HB := n3_; clear n0_ n1_ n2_ n3_; clear hb ho3)); go_loopg [4, 5] k (fun kq v4 v5 w' => ∃ (x4_1 : List (S77)) (x5_1 : Int), v5 = .int .i64 x5_1 ∧ Aside0 (spec_l02List.l0 kq x4_1 x5_1 s0_0 = some (r1, r2, r3)) ∧ Aside0 (kq ≤ k) ∧ Aside0 (Kd.R k77 77 w' w.heap.size (fun _ => True) v4 x4_1) ∧ Aside0 (IsS146 w0 w' g s0_0) ∧ Aside0 (KeepBut w w' g none) ∧ Aside0 (Below w0.heap.size w0 w'))
  case atStart => exact ⟨(y268), (0), z5_, H', ⟨Nat.le_refl _⟩, ⟨by (with_reducible repeat (first | apply Kd.R_alloc | apply Kd.R_drewN | apply Kd.R_drew)); exact HO270.out⟩, ⟨z8_⟩, ⟨z6_⟩, ⟨z16_⟩⟩
  case round =>
    clear H'; (try clear p2); obtain ⟨x4_1, x5_1, rfl, HA, HK1, HO_4, HI0, HK, HB⟩ := hrel
    cases gk with
    | zero => exact absurd HA.out (by simp [spec_l02List.l0])
    | succ k1 =>
      have H := HA.out; clear HA; simp only [spec_l02List.l0] at H; by_cases c4 : x5_1 < 16
      ·rw [if_pos c4] at H; have c4b0 : decide (x5_1 < 16) = true := decide_eq_true c4; clear c4; have H' := Aside0.mk H; clear H; go_wp2; go_loopg [4, 6] k1 (fun kq v4 v6 w' => ∃ (x4_2 : List (S77)) (x6_2 : Int), v6 = .int .i64 x6_2 ∧ Aside0 (spec_l02List.l1 kq x4_2 x5_1 x6_2 s0_0 = some (r1, r2, r3)) ∧ Aside0 (kq ≤ k1) ∧ Aside0 (Kd.R k77 77 w' w.heap.size (fun _ => True) v4 x4_2) ∧ Aside0 (IsS146 w0 w' g s0_0) ∧ Aside0 (KeepBut w w' g none) ∧ Aside0 (Below w0.heap.size w0 w'))
       case atStart => exact ⟨(x4_1), (0), z5_, H', ⟨Nat.le_refl _⟩, ⟨z7_⟩, ⟨z8_⟩, ⟨z6_⟩, ⟨z16_⟩⟩
       case round =>
         clear H'; (try clear p2); (try clear c4); (try clear c4b0); (try clear p2); obtain ⟨x4_2, x6_2, rfl, HA, HK2, HO_4, HI0, HK, HB⟩ := hrel
         cases gk with
         | zero => exact absurd HA.out (by simp [spec_l02List.l1])
         | succ k2 =>
           have H := HA.out; clear HA; simp only [spec_l02List.l1] at H; by_cases c5 : x6_2 < 16
           ·rw [if_pos c5] at H; have c5b0 : decide (x6_2 < 16) = true := decide_eq_true c5; clear c5; by_cases c6 : 0 ≤ x5_1
            ·rw [if_pos c6] at H; have c6b0 : decide (0 ≤ x5_1) = true := decide_eq_true c6; clear c6; by_cases c7 : x5_1 < 16
             ·rw [if_pos c7] at H; have c7b0 : decide (x5_1 < 16) = true := decide_eq_true c7; clear c7; by_cases c9 : 0 ≤ x6_2
              ·rw [if_pos c9] at H; have c9b0 : decide (0 ≤ x6_2) = true := decide_eq_true c9; clear c9; by_cases c12 : (Arr.vrd2 16 s0_0 x5_1 x6_2) > 100000000
               ·rw [if_pos c12] at H; have c12b0 : decide (100000000 < (Arr.vrd2 16 s0_0 x5_1 x6_2)) = true := decide_eq_true c12; clear c12; obtain ⟨y274, hy274⟩ : ∃ y_ : List (S77), y_ = (([] : List (S77))) := ⟨_, rfl⟩; (replace H : (some (y274, 3, s0_0)) = some (r1, r2, r3) := by first | (rw [hy274]; with_reducible exact H) | (have H2_ := (Option.bind_some _ _).symm.trans H; rw [hy274]; with_reducible exact H2_) | (have H2_ := (Option.bind_some _ _).symm.trans H; with_reducible exact H2_) | with_reducible exact H | (rw [hy274]; exact H) | exact H); have Ny274 := Aside0.mk hy274; clear hy274; simp only [Option.some.injEq, Prod.mk.injEq] at H; obtain ⟨rfl, rfl, rfl⟩ := H; have p8 : 0 ≤ (x5_1 : Int) := of_decide_eq_true z2_; have q8 : (x5_1 : Int) < 16 := of_decide_eq_true z2_; replace p8 := eq_true p8; replace q8 := eq_true q8; have p10 : 0 ≤ (x6_2 : Int) := of_decide_eq_true z2_; have q10 : (x6_2 : Int) < 16 := of_decide_eq_true z2_; replace p10 := eq_true p10; replace q10 := eq_true q10; have hx11 : wr.cell? ⟨g, x5_1.toNat * 16 + x6_2.toNat, none⟩ = some (.int .i64 (Arr.vrd2 16 s0_0 x5_1 x6_2)) := Arr.cellN (off := 0) (l := (Arr.arL .i64 s0_0)) ((show IsS146 w0 wr g s0_0 from z8_).1) rfl (x5_1.toNat * 16 + x6_2.toNat) (x5_1.toNat * 16 + x6_2.toNat) (by omega) z67_; have hf11 := blk_frozen ((show IsS146 w0 wr g s0_0 from z8_).1) (x5_1.toNat * 16 + x6_2.toNat); go_wp2_with (first | ((with_reducible refine gate_dst (N := 24) rfl ?_); refine Kd.R_lit k77 _ 77 ?hg (N := 24) ?hd (xs := ([] : List (S77))) (inner := []) (ok := fun _ => True) (okp := fun _ => True) ?hr ?hp (fun _ hk => hk) trivial (Below.refl _ _) (Nat.le_refl _) (by simp) ?_; (case hd => rfl); (case hg => rfl); (case hr => first | (go_simp; done) | (go_simp; rfl)); (case hp => exact (Reps.none _ _)); intro v275 w13 ho14 hb hg_ hnew_; clear hg_ hnew_; (first | rw [← Ny274.out] at ho14 | (simp only [Int.reduceToNat] at ho14; rw [← Ny274.out] at ho14)); have n0_ := Aside0.mk (Kd.R_elder' z7_ (Kd.R_base ho14) hb); have n1_ := Aside0.mk (Kd.R_lower (Kd.R_new' ho14 (Kd.R_lt z7_)) (keep_size (w := w) (g := g) (row := none) z6_)); have n2_ := Aside0.mk (IsS146.below z8_ hb); have n3_ := Aside0.mk (KeepBut.trans z6_ (KeepBut.of_below hb g none) (.inl rfl)); have n4_ := Aside0.mk (below_step z16_ hb); clear HO_4; clear HI0; clear HK; clear HB; have HO_4 := n0_; have HO276 := n1_; have HI0 := n2_; have HK := n3_; have HB := n4_; clear n0_ n1_ n2_ n3_ n4_; clear hb ho14)); go_ret2; exact ⟨_, z3_, by (with_reducible repeat (first | apply Kd.R_alloc | apply Kd.R_drewN | apply Kd.R_drew)); exact Kd.R_mono HO276.out (fun _ hk => trivial), z8_, z16_, z6_⟩
               ·rw [if_neg c12] at H; have c12b0 : decide (100000000 < (Arr.vrd2 16 s0_0 x5_1 x6_2)) = false := decide_eq_false c12; clear c12; by_cases c18 : (Arr.vrd2 16 s0_0 x5_1 x6_2) > 0
                ·rw [if_pos c18] at H; have c18b0 : decide (0 < (Arr.vrd2 16 s0_0 x5_1 x6_2)) = true := decide_eq_true c18; clear c18; by_cases c22 : x4_2.length < 5864062014805
                 ·rw [if_pos c22] at H; have LMc22 := Aside0.mk c22; clear c22; obtain ⟨y277, hy277⟩ : ∃ y_ : List (S77), y_ = (x4_2 ++ [(⟨x5_1, x6_2, Arr.vrd2 16 s0_0 x5_1 x6_2⟩ : S77)]) := ⟨_, rfl⟩; (replace H : (spec_l02List.l1 k2 y277 x5_1 (wrap64 (x6_2 + 1)) s0_0) = some (r1, r2, r3) := by first | (rw [hy277]; with_reducible exact H) | (have H2_ := (Option.bind_some _ _).symm.trans H; rw [hy277]; with_reducible exact H2_) | (have H2_ := (Option.bind_some _ _).symm.trans H; with_reducible exact H2_) | with_reducible exact H | (rw [hy277]; exact H) | exact H); have Ny277 := Aside0.mk hy277; clear hy277; have H' := Aside0.mk H; clear H; have p8 : 0 ≤ (x5_1 : Int) := of_decide_eq_true z2_; have q8 : (x5_1 : Int) < 16 := of_decide_eq_true z2_; replace p8 := eq_true p8; replace q8 := eq_true q8; have p10 : 0 ≤ (x6_2 : Int) := of_decide_eq_true z2_; have q10 : (x6_2 : Int) < 16 := of_decide_eq_true z2_; replace p10 := eq_true p10; replace q10 := eq_true q10; have hx11 : wr.cell? ⟨g, x5_1.toNat * 16 + x6_2.toNat, none⟩ = some (.int .i64 (Arr.vrd2 16 s0_0 x5_1 x6_2)) := Arr.cellN (off := 0) (l := (Arr.arL .i64 s0_0)) ((show IsS146 w0 wr g s0_0 from z8_).1) rfl (x5_1.toNat * 16 + x6_2.toNat) (x5_1.toNat * 16 + x6_2.toNat) (by omega) z67_; have hf11 := blk_frozen ((show IsS146 w0 wr g s0_0 from z8_).1) (x5_1.toNat * 16 + x6_2.toNat); have p15 : 0 ≤ (x5_1 : Int) := of_decide_eq_true z2_; have q15 : (x5_1 : Int) < 16 := of_decide_eq_true z2_; replace p15 := eq_true p15; replace q15 := eq_true q15; have p16 : 0 ≤ (x6_2 : Int) := of_decide_eq_true z2_; have q16 : (x6_2 : Int) < 16 := of_decide_eq_true z2_; replace p16 := eq_true p16; replace q16 := eq_true q16; have hx17 : wr.cell? ⟨g, x5_1.toNat * 16 + x6_2.toNat, none⟩ = some (.int .i64 (Arr.vrd2 16 s0_0 x5_1 x6_2)) := Arr.cellN (off := 0) (l := (Arr.arL .i64 s0_0)) ((show IsS146 w0 wr g s0_0 from z8_).1) rfl (x5_1.toNat * 16 + x6_2.toNat) (x5_1.toNat * 16 + x6_2.toNat) (by omega) (by have a0_ := of_eq_true p15; have b0_ := of_eq_true q15; have a1_ := of_eq_true p16; have b1_ := of_eq_true q16; omega); have hf17 := blk_frozen ((show IsS146 w0 wr g s0_0 from z8_).1) (x5_1.toNat * 16 + x6_2.toNat); have p19 : 0 ≤ (x5_1 : Int) := of_decide_eq_true z2_; have q19 : (x5_1 : Int) < 16 := of_decide_eq_true z2_; replace p19 := eq_true p19; replace q19 := eq_true q19; have p20 : 0 ≤ (x6_2 : Int) := of_decide_eq_true z2_; have q20 : (x6_2 : Int) < 16 := of_decide_eq_true z2_; replace p20 := eq_true p20; replace q20 := eq_true q20; have hx21 : wr.cell? ⟨g, x5_1.toNat * 16 + x6_2.toNat, none⟩ = some (.int .i64 (Arr.vrd2 16 s0_0 x5_1 x6_2)) := Arr.cellN (off := 0) (l := (Arr.arL .i64 s0_0)) ((show IsS146 w0 wr g s0_0 from z8_).1) rfl (x5_1.toNat * 16 + x6_2.toNat) (x5_1.toNat * 16 + x6_2.toNat) (by omega) (by have a0_ := of_eq_true p19; have b0_ := of_eq_true q19; have a1_ := of_eq_true p20; have b1_ := of_eq_true q20; omega); have hf21 := blk_frozen ((show IsS146 w0 wr g s0_0 from z8_).1) (x5_1.toNat * 16 + x6_2.toNat); go_wp2_with (first | ((with_reducible refine gate_builtin (b := .append) (xs := #[.tmp 33, .tmp 44]) rfl ?_); at_builtin; refine Kd.R_append k77 w.heap.size rfl (.tmp 33) (.tmp 44) 28 77 (.agg #[(.int .i64 0), (.int .i64 0), (.int .i64 0)]) 24 rfl Tryd.underlying28 info77 rfl (by decide) (by omega) u4 x4_2 (⟨x5_1, x6_2, Arr.vrd2 16 s0_0 x5_1 x6_2⟩ : S77) [.int .i64 x5_1, .int .i64 x6_2, .int .i64 (Arr.vrd2 16 s0_0 x5_1 x6_2)] (fun _ => True) (fun _ => False) rfl rfl ?aP (fun _ hk => hk.elim) ?aF ?aO (Below.refl _ _) ?aS ?aL ?_; (case aP => exact k77_mkM _ _ _ (⟨x5_1, x6_2, Arr.vrd2 16 s0_0 x5_1 x6_2⟩ : S77)); (case aF => exact (fun _ _ => trivial)); (case aO => exact z7_); (case aS => exact (keep_size (w := w) (g := g) (row := none) z6_)); (case aL => have := LMc22.out; omega); intro v278 w23 ho hb hg hat; rw [← Ny277.out] at ho; have n0_ := Aside0.mk (IsS146.grown (show IsS146 w0 _ g s0_0 from z8_) hg (IsS146.own_ne HI0.out HO_4.out (by decide))); have n1_ := Aside0.mk (below_weaken z16_ HL.out hb); have n2_ := Aside0.mk (KeepBut.trans z6_ (KeepBut.of_grown hg g) (Kd.R_base2 HO_4.out)); have n3_ := Aside0.mk (ho); clear HI0; clear HB; clear HK; clear HO_4; have HI0 := n0_; have HB := n1_; have HK := n2_; have HO279 := n3_; clear n0_ n1_ n2_ n3_; clear ho hb hg hat)); go_roundg k2
                  case measure => have := HK1.out; have := HK2.out; omega
                  case rel => exact ⟨(y277), (wrap64 (x6_2 + 1)), z5_, H', ⟨z57_⟩, ⟨by (with_reducible repeat (first | apply Kd.R_alloc | apply Kd.R_drewN | apply Kd.R_drew)); exact HO279.out⟩, ⟨z8_⟩, ⟨z6_⟩, ⟨z16_⟩⟩
                 ·rw [if_neg c22] at H; exact absurd H (by simp)
                ·rw [if_neg c18] at H; have c18b0 : decide (0 < (Arr.vrd2 16 s0_0 x5_1 x6_2)) = false := decide_eq_false c18; clear c18; have H' := Aside0.mk H; clear H; have p8 : 0 ≤ (x5_1 : Int) := of_decide_eq_true z2_; have q8 : (x5_1 : Int) < 16 := of_decide_eq_true z2_; replace p8 := eq_true p8; replace q8 := eq_true q8; have p10 : 0 ≤ (x6_2 : Int) := of_decide_eq_true z2_; have q10 : (x6_2 : Int) < 16 := of_decide_eq_true z2_; replace p10 := eq_true p10; replace q10 := eq_true q10; have hx11 : wr.cell? ⟨g, x5_1.toNat * 16 + x6_2.toNat, none⟩ = some (.int .i64 (Arr.vrd2 16 s0_0 x5_1 x6_2)) := Arr.cellN (off := 0) (l := (Arr.arL .i64 s0_0)) ((show IsS146 w0 wr g s0_0 from z8_).1) rfl (x5_1.toNat * 16 + x6_2.toNat) (x5_1.toNat * 16 + x6_2.toNat) (by omega) z67_; have hf11 := blk_frozen ((show IsS146 w0 wr g s0_0 from z8_).1) (x5_1.toNat * 16 + x6_2.toNat); have p15 : 0 ≤ (x5_1 : Int) := of_decide_eq_true z2_; have q15 : (x5_1 : Int) < 16 := of_decide_eq_true z2_; replace p15 := eq_true p15; replace q15 := eq_true q15; have p16 : 0 ≤ (x6_2 : Int) := of_decide_eq_true z2_; have q16 : (x6_2 : Int) < 16 := of_decide_eq_true z2_; replace p16 := eq_true p16; replace q16 := eq_true q16; have hx17 : wr.cell? ⟨g, x5_1.toNat * 16 + x6_2.toNat, none⟩ = some (.int .i64 (Arr.vrd2 16 s0_0 x5_1 x6_2)) := Arr.cellN (off := 0) (l := (Arr.arL .i64 s0_0)) ((show IsS146 w0 wr g s0_0 from z8_).1) rfl (x5_1.toNat * 16 + x6_2.toNat) (x5_1.toNat * 16 + x6_2.toNat) (by omega) (by have a0_ := of_eq_true p15; have b0_ := of_eq_true q15; have a1_ := of_eq_true p16; have b1_ := of_eq_true q16; omega); have hf17 := blk_frozen ((show IsS146 w0 wr g s0_0 from z8_).1) (x5_1.toNat * 16 + x6_2.toNat); go_wp2; go_roundg k2
                 case measure => have := HK1.out; have := HK2.out; omega
                 case rel => exact ⟨(x4_2), (wrap64 (x6_2 + 1)), z5_, H', ⟨z57_⟩, ⟨z7_⟩, ⟨z8_⟩, ⟨z6_⟩, ⟨z16_⟩⟩
              ·rw [if_neg c9] at H; exact absurd H (by simp)
             ·rw [if_neg c7] at H; exact absurd H (by simp)
            ·rw [if_neg c6] at H; exact absurd H (by simp)
           ·rw [if_neg c5] at H; have c5b0 : decide (x6_2 < 16) = false := decide_eq_false c5; clear c5; have H' := Aside0.mk H; clear H; go_wp2; go_roundg k2
            case measure => have := HK1.out; have := HK2.out; omega
            case rel => exact ⟨(x4_2), (wrap64 (x5_1 + 1)), z5_, H', ⟨z57_⟩, ⟨z7_⟩, ⟨z8_⟩, ⟨z6_⟩, ⟨z16_⟩⟩
      ·rw [if_neg c4] at H; have c4b0 : decide (x5_1 < 16) = false := decide_eq_false c4; clear c4; by_cases c24 : (x4_1.length : Int) > 60
       ·rw [if_pos c24] at H; have c24b0 : decide (60 < (x4_1.length : Int)) = true := decide_eq_true c24; have c24b1 : decide (60 < x4_1.length) = true := decide_eq_true (by omega); clear c24; obtain ⟨y271, hy271⟩ : ∃ y_ : List (S77), y_ = (([] : List (S77))) := ⟨_, rfl⟩; (replace H : (some (y271, 3, s0_0)) = some (r1, r2, r3) := by first | (rw [hy271]; with_reducible exact H) | (have H2_ := (Option.bind_some _ _).symm.trans H; rw [hy271]; with_reducible exact H2_) | (have H2_ := (Option.bind_some _ _).symm.trans H; with_reducible exact H2_) | with_reducible exact H | (rw [hy271]; exact H) | exact H); have Ny271 := Aside0.mk hy271; clear hy271; simp only [Option.some.injEq, Prod.mk.injEq] at H; obtain ⟨rfl, rfl, rfl⟩ := H; obtain ⟨Ao25, co25, eo25⟩ := Kd.R_slice HO_4.out; subst eo25; go_wp2_with (first | ((with_reducible refine gate_dst (N := 49) rfl ?_); refine Kd.R_lit k77 _ 77 ?hg (N := 49) ?hd (xs := ([] : List (S77))) (inner := []) (ok := fun _ => True) (okp := fun _ => True) ?hr ?hp (fun _ hk => hk) trivial (Below.refl _ _) (Nat.le_refl _) (by simp) ?_; (case hd => rfl); (case hg => rfl); (case hr => first | (go_simp; done) | (go_simp; rfl)); (case hp => exact (Reps.none _ _)); intro v272 w26 ho27 hb hg_ hnew_; clear hg_ hnew_; (first | rw [← Ny271.out] at ho27 | (simp only [Int.reduceToNat] at ho27; rw [← Ny271.out] at ho27)); have n0_ := Aside0.mk (Kd.R_elder' z7_ (Kd.R_base ho27) hb); have n1_ := Aside0.mk (Kd.R_lower (Kd.R_new' ho27 (Kd.R_lt z7_)) (keep_size (w := w) (g := g) (row := none) z6_)); have n2_ := Aside0.mk (IsS146.below z8_ hb); have n3_ := Aside0.mk (KeepBut.trans z6_ (KeepBut.of_below hb g none) (.inl rfl)); have n4_ := Aside0.mk (below_step z16_ hb); clear HO_4; clear HI0; clear HK; clear HB; have HO_4 := n0_; have HO273 := n1_; have HI0 := n2_; have HK := n3_; have HB := n4_; clear n0_ n1_ n2_ n3_ n4_; clear hb ho27)); go_ret2; exact ⟨_, z3_, by (with_reducible repeat (first | apply Kd.R_alloc | apply Kd.R_drewN | apply Kd.R_drew)); exact Kd.R_mono HO273.out (fun _ hk => trivial), z8_, z16_, z6_⟩
       ·rw [if_neg c24] at H; have c24b0 : decide (60 < (x4_1.length : Int)) = false := decide_eq_false c24; have c24b1 : decide (60 < x4_1.length) = false := decide_eq_false (by omega); clear c24; simp only [Option.some.injEq, Prod.mk.injEq] at H; obtain ⟨rfl, rfl, rfl⟩ := H; obtain ⟨Ao28, co28, eo28⟩ := Kd.R_slice HO_4.out; subst eo28; go_wp2; go_ret2; exact ⟨_, z3_, z7_, z8_, z16_, z6_⟩

end Go.Proofs.YtfjmljgbdejghaaDoor.MNets
