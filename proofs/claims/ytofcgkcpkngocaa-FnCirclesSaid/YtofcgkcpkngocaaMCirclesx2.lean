-- by a program of this session, for this claim
import Derived.Test.YtofcgkcpkngocaaMCirclesx0
namespace Go.Proofs.Ytofcgkcpkngocaa.MCircles
open Go.RowKit Go.Proofs.YtofcgkcpkngocaaW.PrintWords Go.Proofs.YtofcgkcpkngocaaW.PrintLast Go.Proofs.YtofcgkcpkngocaaW.PrintMore
attribute [local go_sem] max2_int min2_int max_two min_two max_three min_three max_four min_four   -- for this text's walks alone
set_option linter.unusedVariables false
set_option linter.unusedSimpArgs false

/-! ### impl_ValidDebts: function 61 -/
mutual
def impl_ValidDebts.j0 : Nat → Int → List (S65) → Bool → Option (Bool)
  | 0, _, _, _ => none
  | k + 1, x0, x1, x17 => if x17 = true then (some false) else (impl_ValidDebts.l0 k x0 x1 (x1.length : Int) 0)
def impl_ValidDebts.l0 : Nat → Int → List (S65) → Int → Int → Option (Bool)
  | 0, _, _, _, _ => none
  | k + 1, x0, x18, x19, x20 => if x20 < x19 then (if 0 ≤ x20 then (if x20 < (x18.length : Int) then (if ((rd_T65 x18 x20).f0) < 0 then (some false) else (if ((rd_T65 x18 x20).f0) ≥ x0 then (some false) else (if ((rd_T65 x18 x20).f1) < 0 then (some false) else (if ((rd_T65 x18 x20).f1) ≥ x0 then (some false) else (if ((rd_T65 x18 x20).f0) = ((rd_T65 x18 x20).f1) then (some false) else (if ((rd_T65 x18 x20).f2) < 1 then (some false) else (if ((rd_T65 x18 x20).f2) > 100000000 then (some false) else (impl_ValidDebts.l0 k x0 x18 x19 (wrap64 (x20 + 1)))))))))) else (none)) else (none)) else (some true)
end
def impl_ValidDebts.f (k : Nat) (a0 : Int) (l1 : List (S65)) : Option (Bool) := if a0 < 1 then (impl_ValidDebts.j0 k a0 l1 true) else (if a0 > 16 then (impl_ValidDebts.j0 k a0 l1 true) else (impl_ValidDebts.j0 k a0 l1 (decide ((l1.length : Int) > 60))))
theorem impl_ValidDebts.mono_l : ∀ k, (∀ y0 y1 y2, LeO (impl_ValidDebts.j0 k y0 y1 y2) (impl_ValidDebts.j0 (k + 1) y0 y1 y2)) ∧ (∀ y0 y1 y2 y3, LeO (impl_ValidDebts.l0 k y0 y1 y2 y3) (impl_ValidDebts.l0 (k + 1) y0 y1 y2 y3))
  | 0 => ⟨fun _ _ _ r h => by simp [impl_ValidDebts.j0] at h, fun _ _ _ _ r h => by simp [impl_ValidDebts.l0] at h⟩
  | k + 1 => by
    obtain ⟨ih0, ih1⟩ := impl_ValidDebts.mono_l k
    refine ⟨?_, ?_⟩
    · intro y0 y1 y2
      unfold impl_ValidDebts.j0
      repeat' first
      | (with_reducible exact ih0 _ _ _)
      | (with_reducible exact ih1 _ _ _ _)
      | (with_reducible exact LeO.refl _)
      | (with_reducible exact LeO.none _)
      | (with_reducible refine LeO.ite ?_ ?_)
      | (with_reducible refine LeO.bind ?_ (fun _ => ?_))
      | exact ih0 _ _ _
      | exact ih1 _ _ _ _
      | exact LeO.none _
      | refine LeO.ite ?_ ?_
      | refine LeO.bind ?_ (fun _ => ?_)
    · intro y0 y1 y2 y3
      unfold impl_ValidDebts.l0
      repeat' first
      | (with_reducible exact ih0 _ _ _)
      | (with_reducible exact ih1 _ _ _ _)
      | (with_reducible exact LeO.refl _)
      | (with_reducible exact LeO.none _)
      | (with_reducible refine LeO.ite ?_ ?_)
      | (with_reducible refine LeO.bind ?_ (fun _ => ?_))
      | exact ih0 _ _ _
      | exact ih1 _ _ _ _
      | exact LeO.none _
      | refine LeO.ite ?_ ?_
      | refine LeO.bind ?_ (fun _ => ?_)
theorem impl_ValidDebts.mono : ∀ a0 a1 k, LeO (impl_ValidDebts.f k a0 a1) (impl_ValidDebts.f (k + 1) a0 a1) := by
  intro a0 a1 k; obtain ⟨ih0, ih1⟩ := impl_ValidDebts.mono_l k; unfold impl_ValidDebts.f
  repeat' first
      | (with_reducible exact ih0 _ _ _)
      | (with_reducible exact ih1 _ _ _ _)
      | (with_reducible exact LeO.refl _)
      | (with_reducible exact LeO.none _)
      | (with_reducible refine LeO.ite ?_ ?_)
      | (with_reducible refine LeO.bind ?_ (fun _ => ?_))
      | exact ih0 _ _ _
      | exact ih1 _ _ _ _
      | exact LeO.none _
      | refine LeO.ite ?_ ?_
      | refine LeO.bind ?_ (fun _ => ?_)
set_option maxHeartbeats 8000000 in
set_option maxRecDepth 100000 in
theorem impl_ValidDebts.calls (k : Nat) (a0 : Int) (A1 : Option Addr) (c1 : Nat) (l1 : List (S65)) (r : Bool) (w : World) (hr1 : Kd.C k65 w A1 l1.length l1) (hc1 : l1.length ≤ c1) (h : impl_ValidDebts.f k a0 l1 = some r) :
    Calls Try.prog 61 #[.int .i64 a0, .slice A1 l1.length c1] w fun e w' => e = .returned (.bool r) ∧ Below w.heap.size w w' := by
  have hu65 := Try.underlying65; have HR1 := A_ hr1; have HC1 := A_ hc1; clear hr1 hc1; have HB := A_ (Below.refl w.heap.size w); have H : (if a0 < 1 then (impl_ValidDebts.j0 k a0 l1 true) else (if a0 > 16 then (impl_ValidDebts.j0 k a0 l1 true) else (impl_ValidDebts.j0 k a0 l1 (decide ((l1.length : Int) > 60))))) = some r := h; clear h; have HC3 := A_ H; clear H; go_enter Try.func61, Try.ntmps61; go_upto_region 1 with (fail); go_cut [17] (fun v17 wc => ∃ (kq : Nat) (x17_2 : Bool), v17 = .bool x17_2 ∧ Aside0 (impl_ValidDebts.j0 kq a0 l1 x17_2 = some r) ∧ Aside0 (kq ≤ k) ∧ Aside0 (Below w.heap.size w wc))
  case first =>
    have H := HC3.out; clear HC3; by_cases c4 : a0 < 1
    · rw [if_pos c4] at H; have c4b0 : decide (a0 < 1) = true := decide_eq_true c4; clear c4; (first | rw [c4b0] | (simp only [i64_w, i32_w]; rw [c4b0]) | skip); have H' := A_ H; clear H; go_wp2; go_meet
      case rel => exact ⟨_, (true), z11_, H', ⟨z73_⟩, ⟨z0_⟩⟩
    · rw [if_neg c4] at H; have c4b0 : decide (a0 < 1) = false := decide_eq_false c4; clear c4; (first | rw [c4b0] | (simp only [i64_w, i32_w]; rw [c4b0]) | skip); by_cases c5 : a0 > 16
      · rw [if_pos c5] at H; have c5b0 : decide (16 < a0) = true := decide_eq_true c5; clear c5; have H' := A_ H; clear H; go_wp2; go_meet
        case rel => exact ⟨_, (true), z11_, H', ⟨z73_⟩, ⟨z0_⟩⟩
      · rw [if_neg c5] at H; have c5b0 : decide (16 < a0) = false := decide_eq_false c5; clear c5; have H' := A_ H; clear H; go_wp2; go_meet
        case rel => exact ⟨_, (decide ((l1.length : Int) > 60)), z11_, H', ⟨z73_⟩, ⟨z0_⟩⟩
  case rest =>
    clear HC3; (try clear c1); (try clear p2); (try clear c4); (try clear c4b0); (try clear c5); (try clear c5b0); obtain ⟨kq, x17_2, rfl, HA, HJ2, HB⟩ := hcut
    cases kq with
    | zero => exact absurd HA.out (by simp [impl_ValidDebts.j0])
    | succ kj2 =>
      have H := HA.out; clear HA; simp only [impl_ValidDebts.j0] at H; by_cases c6 : x17_2 = true
      · subst c6; (have H1 : (some false) = some r := z36_); clear H; have H := H1; clear H1; obtain rfl := Option.some.inj H; go_wp2; go_ret; exact ⟨z10_, z0_⟩
      · replace c6 := Bool.eq_false_iff.mpr c6; subst c6; (have H1 : (impl_ValidDebts.l0 kj2 a0 l1 (l1.length : Int) 0) = some r := z17_); clear H; have H := H1; clear H1; have H' := A_ H; clear H; go_wp2; go_loopg [20] kj2 (fun kq v20 w' => ∃ (x20_2 : Int), v20 = .int .i64 x20_2 ∧ Aside0 (impl_ValidDebts.l0 kq a0 l1 (l1.length : Int) x20_2 = some r) ∧ Aside0 (kq ≤ kj2) ∧ Aside0 (Below w.heap.size w w'))
        case atStart => exact ⟨(0), z11_, H', ⟨Nat.le_refl _⟩, ⟨z0_⟩⟩
        case round =>
          clear H'; (try clear c1); (try clear p2); (try clear c4); (try clear c4b0); (try clear c5); (try clear c5b0); (try clear c6); (try clear p2); obtain ⟨x20_2, rfl, HA, HK2, HB⟩ := hrel
          cases gk with
          | zero => exact absurd HA.out (by simp [impl_ValidDebts.l0])
          | succ k2 =>
            have H := HA.out; clear HA; simp only [impl_ValidDebts.l0] at H; by_cases c7 : x20_2 < (l1.length : Int)
            · rw [if_pos c7] at H; have c7b0 : decide (x20_2 < (l1.length : Int)) = true := decide_eq_true c7; clear c7; by_cases c8 : 0 ≤ x20_2
              · rw [if_pos c8] at H; have c8b0 : decide (0 ≤ x20_2) = true := decide_eq_true c8; clear c8; by_cases c9 : x20_2 < (l1.length : Int)
                · rw [if_pos c9] at H; have c9b0 : decide (x20_2 < (l1.length : Int)) = true := decide_eq_true c9; clear c9; by_cases c10 : ((rd_T65 l1 x20_2).f0) < 0
                  · rw [if_pos c10] at H; have c10b0 : decide (((rd_T65 l1 x20_2).f0) < 0) = true := decide_eq_true c10; clear c10; obtain rfl := Option.some.inj H; have p101 : 0 ≤ (x20_2 : Int) := of_decide_eq_true z3_; have q101 : x20_2 < (l1.length : Int) := of_decide_eq_true z3_; obtain ⟨ad101, e101, hx101_0, hx101_1, hx101_2⟩ := at_T65 HR1.out x20_2 p101 q101; cases e101; replace hx101_0 := (HB.out.cell (bl_ w _ hx101_0)).trans hx101_0; replace hx101_1 := (HB.out.cell (bl_ w _ hx101_1)).trans hx101_1; replace hx101_2 := (HB.out.cell (bl_ w _ hx101_2)).trans hx101_2; replace p101 := eq_true p101; replace q101 := eq_true q101; go_wp2_with (first | ((with_reducible refine gate_dst (N := 6) rfl ?_); (try (refine gate_guard (by rfl) ?_; dsimp only)); refine box_event ?hg (N := 6) ?hd (cs := #[.int .i64 0, .int .i64 0, .int .i64 0]) (t := 65) ?hr ?_; (case hd => rfl); (case hg => rfl); (case hr => first | (go_simp; done) | (go_simp; rfl)); intro gb102 hg w11 hbox hb; have n0_ := A_ (below_step z0_ hb); have n1_ := A_ (hbox); have n2_ := A_ ((by rw [hg]; exact (below_size z0_) : w.heap.size ≤ gb102)); have n3_ := A_ ((by rw [hg]; exact (below_size z0_) : w.heap.size ≤ gb102)); clear HB; have HB := n0_; have BK102 := n1_; have GW102 := n2_; have GE102 := n3_; clear n0_ n1_ n2_ n3_; clear hb hbox hg; have hcz12_0 : w11.cell? ⟨gb102, 0, none⟩ = some (.int .i64 0) := (blk_cell BK102.out 0).trans rfl; have hcz12_1 : w11.cell? ⟨gb102, 1, none⟩ = some (.int .i64 0) := (blk_cell BK102.out 1).trans rfl; have hcz12_2 : w11.cell? ⟨gb102, 2, none⟩ = some (.int .i64 0) := (blk_cell BK102.out 2).trans rfl; have hfz12_0 := blk_frozen BK102.out 0; have hfz12_1 := blk_frozen BK102.out 1; have hfz12_2 := blk_frozen BK102.out 2)); go_ret; exact ⟨z10_, z38_⟩
                  · rw [if_neg c10] at H; have c10b0 : decide (((rd_T65 l1 x20_2).f0) < 0) = false := decide_eq_false c10; clear c10; by_cases c13 : ((rd_T65 l1 x20_2).f0) ≥ a0
                    · rw [if_pos c13] at H; have c13b0 : decide (a0 ≤ ((rd_T65 l1 x20_2).f0)) = true := decide_eq_true c13; clear c13; obtain rfl := Option.some.inj H; have p101 : 0 ≤ (x20_2 : Int) := of_decide_eq_true z3_; have q101 : x20_2 < (l1.length : Int) := of_decide_eq_true z3_; obtain ⟨ad101, e101, hx101_0, hx101_1, hx101_2⟩ := at_T65 HR1.out x20_2 p101 q101; cases e101; replace hx101_0 := (HB.out.cell (bl_ w _ hx101_0)).trans hx101_0; replace hx101_1 := (HB.out.cell (bl_ w _ hx101_1)).trans hx101_1; replace hx101_2 := (HB.out.cell (bl_ w _ hx101_2)).trans hx101_2; replace p101 := eq_true p101; replace q101 := eq_true q101; go_wp2_with (first | ((with_reducible refine gate_dst (N := 6) rfl ?_); (try (refine gate_guard (by rfl) ?_; dsimp only)); refine box_event ?hg (N := 6) ?hd (cs := #[.int .i64 0, .int .i64 0, .int .i64 0]) (t := 65) ?hr ?_; (case hd => rfl); (case hg => rfl); (case hr => first | (go_simp; done) | (go_simp; rfl)); intro gb102 hg w14 hbox hb; have n0_ := A_ (below_step z0_ hb); have n1_ := A_ (hbox); have n2_ := A_ ((by rw [hg]; exact (below_size z0_) : w.heap.size ≤ gb102)); have n3_ := A_ ((by rw [hg]; exact (below_size z0_) : w.heap.size ≤ gb102)); clear HB; have HB := n0_; have BK102 := n1_; have GW102 := n2_; have GE102 := n3_; clear n0_ n1_ n2_ n3_; clear hb hbox hg; have hcz15_0 : w14.cell? ⟨gb102, 0, none⟩ = some (.int .i64 0) := (blk_cell BK102.out 0).trans rfl; have hcz15_1 : w14.cell? ⟨gb102, 1, none⟩ = some (.int .i64 0) := (blk_cell BK102.out 1).trans rfl; have hcz15_2 : w14.cell? ⟨gb102, 2, none⟩ = some (.int .i64 0) := (blk_cell BK102.out 2).trans rfl; have hfz15_0 := blk_frozen BK102.out 0; have hfz15_1 := blk_frozen BK102.out 1; have hfz15_2 := blk_frozen BK102.out 2)); go_ret; exact ⟨z10_, z38_⟩
                    · rw [if_neg c13] at H; have c13b0 : decide (a0 ≤ ((rd_T65 l1 x20_2).f0)) = false := decide_eq_false c13; clear c13; by_cases c16 : ((rd_T65 l1 x20_2).f1) < 0
                      · rw [if_pos c16] at H; have c16b0 : decide (((rd_T65 l1 x20_2).f1) < 0) = true := decide_eq_true c16; clear c16; obtain rfl := Option.some.inj H; have p101 : 0 ≤ (x20_2 : Int) := of_decide_eq_true z3_; have q101 : x20_2 < (l1.length : Int) := of_decide_eq_true z3_; obtain ⟨ad101, e101, hx101_0, hx101_1, hx101_2⟩ := at_T65 HR1.out x20_2 p101 q101; cases e101; replace hx101_0 := (HB.out.cell (bl_ w _ hx101_0)).trans hx101_0; replace hx101_1 := (HB.out.cell (bl_ w _ hx101_1)).trans hx101_1; replace hx101_2 := (HB.out.cell (bl_ w _ hx101_2)).trans hx101_2; replace p101 := eq_true p101; replace q101 := eq_true q101; go_wp2_with (first | ((with_reducible refine gate_dst (N := 6) rfl ?_); (try (refine gate_guard (by rfl) ?_; dsimp only)); refine box_event ?hg (N := 6) ?hd (cs := #[.int .i64 0, .int .i64 0, .int .i64 0]) (t := 65) ?hr ?_; (case hd => rfl); (case hg => rfl); (case hr => first | (go_simp; done) | (go_simp; rfl)); intro gb102 hg w17 hbox hb; have n0_ := A_ (below_step z0_ hb); have n1_ := A_ (hbox); have n2_ := A_ ((by rw [hg]; exact (below_size z0_) : w.heap.size ≤ gb102)); have n3_ := A_ ((by rw [hg]; exact (below_size z0_) : w.heap.size ≤ gb102)); clear HB; have HB := n0_; have BK102 := n1_; have GW102 := n2_; have GE102 := n3_; clear n0_ n1_ n2_ n3_; clear hb hbox hg; have hcz18_0 : w17.cell? ⟨gb102, 0, none⟩ = some (.int .i64 0) := (blk_cell BK102.out 0).trans rfl; have hcz18_1 : w17.cell? ⟨gb102, 1, none⟩ = some (.int .i64 0) := (blk_cell BK102.out 1).trans rfl; have hcz18_2 : w17.cell? ⟨gb102, 2, none⟩ = some (.int .i64 0) := (blk_cell BK102.out 2).trans rfl; have hfz18_0 := blk_frozen BK102.out 0; have hfz18_1 := blk_frozen BK102.out 1; have hfz18_2 := blk_frozen BK102.out 2)); go_ret; exact ⟨z10_, z38_⟩
                      · rw [if_neg c16] at H; have c16b0 : decide (((rd_T65 l1 x20_2).f1) < 0) = false := decide_eq_false c16; clear c16; by_cases c19 : ((rd_T65 l1 x20_2).f1) ≥ a0
                        · rw [if_pos c19] at H; have c19b0 : decide (a0 ≤ ((rd_T65 l1 x20_2).f1)) = true := decide_eq_true c19; clear c19; obtain rfl := Option.some.inj H; have p101 : 0 ≤ (x20_2 : Int) := of_decide_eq_true z3_; have q101 : x20_2 < (l1.length : Int) := of_decide_eq_true z3_; obtain ⟨ad101, e101, hx101_0, hx101_1, hx101_2⟩ := at_T65 HR1.out x20_2 p101 q101; cases e101; replace hx101_0 := (HB.out.cell (bl_ w _ hx101_0)).trans hx101_0; replace hx101_1 := (HB.out.cell (bl_ w _ hx101_1)).trans hx101_1; replace hx101_2 := (HB.out.cell (bl_ w _ hx101_2)).trans hx101_2; replace p101 := eq_true p101; replace q101 := eq_true q101; go_wp2_with (first | ((with_reducible refine gate_dst (N := 6) rfl ?_); (try (refine gate_guard (by rfl) ?_; dsimp only)); refine box_event ?hg (N := 6) ?hd (cs := #[.int .i64 0, .int .i64 0, .int .i64 0]) (t := 65) ?hr ?_; (case hd => rfl); (case hg => rfl); (case hr => first | (go_simp; done) | (go_simp; rfl)); intro gb102 hg w20 hbox hb; have n0_ := A_ (below_step z0_ hb); have n1_ := A_ (hbox); have n2_ := A_ ((by rw [hg]; exact (below_size z0_) : w.heap.size ≤ gb102)); have n3_ := A_ ((by rw [hg]; exact (below_size z0_) : w.heap.size ≤ gb102)); clear HB; have HB := n0_; have BK102 := n1_; have GW102 := n2_; have GE102 := n3_; clear n0_ n1_ n2_ n3_; clear hb hbox hg; have hcz21_0 : w20.cell? ⟨gb102, 0, none⟩ = some (.int .i64 0) := (blk_cell BK102.out 0).trans rfl; have hcz21_1 : w20.cell? ⟨gb102, 1, none⟩ = some (.int .i64 0) := (blk_cell BK102.out 1).trans rfl; have hcz21_2 : w20.cell? ⟨gb102, 2, none⟩ = some (.int .i64 0) := (blk_cell BK102.out 2).trans rfl; have hfz21_0 := blk_frozen BK102.out 0; have hfz21_1 := blk_frozen BK102.out 1; have hfz21_2 := blk_frozen BK102.out 2)); go_ret; exact ⟨z10_, z38_⟩
                        · rw [if_neg c19] at H; have c19b0 : decide (a0 ≤ ((rd_T65 l1 x20_2).f1)) = false := decide_eq_false c19; clear c19; by_cases c22 : ((rd_T65 l1 x20_2).f0) = ((rd_T65 l1 x20_2).f1)
                          · rw [if_pos c22] at H; have c22b0 : (((rd_T65 l1 x20_2).f0) == ((rd_T65 l1 x20_2).f1)) = true := beq_iff_eq.mpr c22; have c22b1 : (((rd_T65 l1 x20_2).f0) != ((rd_T65 l1 x20_2).f1)) = false := bne_eq_false_iff_eq.mpr c22; clear c22; obtain rfl := Option.some.inj H; have p101 : 0 ≤ (x20_2 : Int) := of_decide_eq_true z3_; have q101 : x20_2 < (l1.length : Int) := of_decide_eq_true z3_; obtain ⟨ad101, e101, hx101_0, hx101_1, hx101_2⟩ := at_T65 HR1.out x20_2 p101 q101; cases e101; replace hx101_0 := (HB.out.cell (bl_ w _ hx101_0)).trans hx101_0; replace hx101_1 := (HB.out.cell (bl_ w _ hx101_1)).trans hx101_1; replace hx101_2 := (HB.out.cell (bl_ w _ hx101_2)).trans hx101_2; replace p101 := eq_true p101; replace q101 := eq_true q101; go_wp2_with (first | ((with_reducible refine gate_dst (N := 6) rfl ?_); (try (refine gate_guard (by rfl) ?_; dsimp only)); refine box_event ?hg (N := 6) ?hd (cs := #[.int .i64 0, .int .i64 0, .int .i64 0]) (t := 65) ?hr ?_; (case hd => rfl); (case hg => rfl); (case hr => first | (go_simp; done) | (go_simp; rfl)); intro gb102 hg w23 hbox hb; have n0_ := A_ (below_step z0_ hb); have n1_ := A_ (hbox); have n2_ := A_ ((by rw [hg]; exact (below_size z0_) : w.heap.size ≤ gb102)); have n3_ := A_ ((by rw [hg]; exact (below_size z0_) : w.heap.size ≤ gb102)); clear HB; have HB := n0_; have BK102 := n1_; have GW102 := n2_; have GE102 := n3_; clear n0_ n1_ n2_ n3_; clear hb hbox hg; have hcz24_0 : w23.cell? ⟨gb102, 0, none⟩ = some (.int .i64 0) := (blk_cell BK102.out 0).trans rfl; have hcz24_1 : w23.cell? ⟨gb102, 1, none⟩ = some (.int .i64 0) := (blk_cell BK102.out 1).trans rfl; have hcz24_2 : w23.cell? ⟨gb102, 2, none⟩ = some (.int .i64 0) := (blk_cell BK102.out 2).trans rfl; have hfz24_0 := blk_frozen BK102.out 0; have hfz24_1 := blk_frozen BK102.out 1; have hfz24_2 := blk_frozen BK102.out 2)); go_ret; exact ⟨z10_, z38_⟩
                          · rw [if_neg c22] at H; have c22b0 : (((rd_T65 l1 x20_2).f0) == ((rd_T65 l1 x20_2).f1)) = false := beq_eq_false_iff_ne.mpr c22; have c22b1 : (((rd_T65 l1 x20_2).f0) != ((rd_T65 l1 x20_2).f1)) = true := bne_iff_ne.mpr c22; by_cases c25 : ((rd_T65 l1 x20_2).f2) < 1
                            · rw [if_pos c25] at H; have c25b0 : decide (((rd_T65 l1 x20_2).f2) < 1) = true := decide_eq_true c25; clear c25; obtain rfl := Option.some.inj H; have p101 : 0 ≤ (x20_2 : Int) := of_decide_eq_true z3_; have q101 : x20_2 < (l1.length : Int) := of_decide_eq_true z3_; obtain ⟨ad101, e101, hx101_0, hx101_1, hx101_2⟩ := at_T65 HR1.out x20_2 p101 q101; cases e101; replace hx101_0 := (HB.out.cell (bl_ w _ hx101_0)).trans hx101_0; replace hx101_1 := (HB.out.cell (bl_ w _ hx101_1)).trans hx101_1; replace hx101_2 := (HB.out.cell (bl_ w _ hx101_2)).trans hx101_2; replace p101 := eq_true p101; replace q101 := eq_true q101; go_wp2_with (first | ((with_reducible refine gate_dst (N := 6) rfl ?_); (try (refine gate_guard (by rfl) ?_; dsimp only)); refine box_event ?hg (N := 6) ?hd (cs := #[.int .i64 0, .int .i64 0, .int .i64 0]) (t := 65) ?hr ?_; (case hd => rfl); (case hg => rfl); (case hr => first | (go_simp; done) | (go_simp; rfl)); intro gb102 hg w26 hbox hb; have n0_ := A_ (below_step z0_ hb); have n1_ := A_ (hbox); have n2_ := A_ ((by rw [hg]; exact (below_size z0_) : w.heap.size ≤ gb102)); have n3_ := A_ ((by rw [hg]; exact (below_size z0_) : w.heap.size ≤ gb102)); clear HB; have HB := n0_; have BK102 := n1_; have GW102 := n2_; have GE102 := n3_; clear n0_ n1_ n2_ n3_; clear hb hbox hg; have hcz27_0 : w26.cell? ⟨gb102, 0, none⟩ = some (.int .i64 0) := (blk_cell BK102.out 0).trans rfl; have hcz27_1 : w26.cell? ⟨gb102, 1, none⟩ = some (.int .i64 0) := (blk_cell BK102.out 1).trans rfl; have hcz27_2 : w26.cell? ⟨gb102, 2, none⟩ = some (.int .i64 0) := (blk_cell BK102.out 2).trans rfl; have hfz27_0 := blk_frozen BK102.out 0; have hfz27_1 := blk_frozen BK102.out 1; have hfz27_2 := blk_frozen BK102.out 2)); go_ret; exact ⟨z10_, z38_⟩
                            · rw [if_neg c25] at H; have c25b0 : decide (((rd_T65 l1 x20_2).f2) < 1) = false := decide_eq_false c25; clear c25; by_cases c28 : ((rd_T65 l1 x20_2).f2) > 100000000
                              · rw [if_pos c28] at H; have c28b0 : decide (100000000 < ((rd_T65 l1 x20_2).f2)) = true := decide_eq_true c28; clear c28; obtain rfl := Option.some.inj H; have p101 : 0 ≤ (x20_2 : Int) := of_decide_eq_true z3_; have q101 : x20_2 < (l1.length : Int) := of_decide_eq_true z3_; obtain ⟨ad101, e101, hx101_0, hx101_1, hx101_2⟩ := at_T65 HR1.out x20_2 p101 q101; cases e101; replace hx101_0 := (HB.out.cell (bl_ w _ hx101_0)).trans hx101_0; replace hx101_1 := (HB.out.cell (bl_ w _ hx101_1)).trans hx101_1; replace hx101_2 := (HB.out.cell (bl_ w _ hx101_2)).trans hx101_2; replace p101 := eq_true p101; replace q101 := eq_true q101; go_wp2_with (first | ((with_reducible refine gate_dst (N := 6) rfl ?_); (try (refine gate_guard (by rfl) ?_; dsimp only)); refine box_event ?hg (N := 6) ?hd (cs := #[.int .i64 0, .int .i64 0, .int .i64 0]) (t := 65) ?hr ?_; (case hd => rfl); (case hg => rfl); (case hr => first | (go_simp; done) | (go_simp; rfl)); intro gb102 hg w29 hbox hb; have n0_ := A_ (below_step z0_ hb); have n1_ := A_ (hbox); have n2_ := A_ ((by rw [hg]; exact (below_size z0_) : w.heap.size ≤ gb102)); have n3_ := A_ ((by rw [hg]; exact (below_size z0_) : w.heap.size ≤ gb102)); clear HB; have HB := n0_; have BK102 := n1_; have GW102 := n2_; have GE102 := n3_; clear n0_ n1_ n2_ n3_; clear hb hbox hg; have hcz30_0 : w29.cell? ⟨gb102, 0, none⟩ = some (.int .i64 0) := (blk_cell BK102.out 0).trans rfl; have hcz30_1 : w29.cell? ⟨gb102, 1, none⟩ = some (.int .i64 0) := (blk_cell BK102.out 1).trans rfl; have hcz30_2 : w29.cell? ⟨gb102, 2, none⟩ = some (.int .i64 0) := (blk_cell BK102.out 2).trans rfl; have hfz30_0 := blk_frozen BK102.out 0; have hfz30_1 := blk_frozen BK102.out 1; have hfz30_2 := blk_frozen BK102.out 2)); go_ret; exact ⟨z10_, z38_⟩
                              · rw [if_neg c28] at H; have c28b0 : decide (100000000 < ((rd_T65 l1 x20_2).f2)) = false := decide_eq_false c28; clear c28; have H' := A_ H; clear H; have p101 : 0 ≤ (x20_2 : Int) := of_decide_eq_true z3_; have q101 : x20_2 < (l1.length : Int) := of_decide_eq_true z3_; obtain ⟨ad101, e101, hx101_0, hx101_1, hx101_2⟩ := at_T65 HR1.out x20_2 p101 q101; cases e101; replace hx101_0 := (HB.out.cell (bl_ w _ hx101_0)).trans hx101_0; replace hx101_1 := (HB.out.cell (bl_ w _ hx101_1)).trans hx101_1; replace hx101_2 := (HB.out.cell (bl_ w _ hx101_2)).trans hx101_2; replace p101 := eq_true p101; replace q101 := eq_true q101; go_wp2_with (first | ((with_reducible refine gate_dst (N := 6) rfl ?_); (try (refine gate_guard (by rfl) ?_; dsimp only)); refine box_event ?hg (N := 6) ?hd (cs := #[.int .i64 0, .int .i64 0, .int .i64 0]) (t := 65) ?hr ?_; (case hd => rfl); (case hg => rfl); (case hr => first | (go_simp; done) | (go_simp; rfl)); intro gb102 hg w31 hbox hb; have n0_ := A_ (below_step z0_ hb); have n1_ := A_ (hbox); have n2_ := A_ ((by rw [hg]; exact (below_size z0_) : w.heap.size ≤ gb102)); have n3_ := A_ ((by rw [hg]; exact (below_size z0_) : w.heap.size ≤ gb102)); clear HB; have HB := n0_; have BK102 := n1_; have GW102 := n2_; have GE102 := n3_; clear n0_ n1_ n2_ n3_; clear hb hbox hg; have hcz32_0 : w31.cell? ⟨gb102, 0, none⟩ = some (.int .i64 0) := (blk_cell BK102.out 0).trans rfl; have hcz32_1 : w31.cell? ⟨gb102, 1, none⟩ = some (.int .i64 0) := (blk_cell BK102.out 1).trans rfl; have hcz32_2 : w31.cell? ⟨gb102, 2, none⟩ = some (.int .i64 0) := (blk_cell BK102.out 2).trans rfl; have hfz32_0 := blk_frozen BK102.out 0; have hfz32_1 := blk_frozen BK102.out 1; have hfz32_2 := blk_frozen BK102.out 2)); go_roundg k2
                                case measure => have := HJ2.out; have := HK2.out; omega
                                case rel => exact ⟨(wrap64 (x20_2 + 1)), z11_, H', ⟨by have := HJ2.out; have := HK2.out; omega⟩, ⟨z38_⟩⟩
                · rw [if_neg c9] at H; exact absurd H (by simp)
              · rw [if_neg c8] at H; exact absurd H (by simp)
            · rw [if_neg c7] at H; have c7b0 : decide (x20_2 < (l1.length : Int)) = false := decide_eq_false c7; clear c7; obtain rfl := Option.some.inj H; go_wp2; go_ret; exact ⟨z10_, z0_⟩

/-! ### impl_arePeople: function 83 -/
def impl_arePeople.l0 : Nat → Int → List Int → Int → Int → Option (Bool)
  | 0, _, _, _, _ => none
  | k + 1, x0, x7, x8, x9 => if x9 < x8 then (if 0 ≤ x9 then (if x9 < (x7.length : Int) then (if (rd x7 x9) < 0 then (some false) else (if (rd x7 x9) ≥ x0 then (some false) else (impl_arePeople.l0 k x0 x7 x8 (wrap64 (x9 + 1))))) else (none)) else (none)) else (some true)
def impl_arePeople.f (k : Nat) (a0 : Int) (l1 : List Int) : Option (Bool) := impl_arePeople.l0 k a0 l1 (l1.length : Int) 0
theorem impl_arePeople.mono_l : ∀ k, (∀ y0 y1 y2 y3, LeO (impl_arePeople.l0 k y0 y1 y2 y3) (impl_arePeople.l0 (k + 1) y0 y1 y2 y3))
  | 0 => fun _ _ _ _ r h => by simp [impl_arePeople.l0] at h
  | k + 1 => by
    have ih0 := impl_arePeople.mono_l k
    · intro y0 y1 y2 y3
      unfold impl_arePeople.l0
      repeat' first
      | (with_reducible exact ih0 _ _ _ _)
      | (with_reducible exact LeO.refl _)
      | (with_reducible exact LeO.none _)
      | (with_reducible refine LeO.ite ?_ ?_)
      | (with_reducible refine LeO.bind ?_ (fun _ => ?_))
      | exact ih0 _ _ _ _
      | exact LeO.none _
      | refine LeO.ite ?_ ?_
      | refine LeO.bind ?_ (fun _ => ?_)
theorem impl_arePeople.mono : ∀ a0 a1 k, LeO (impl_arePeople.f k a0 a1) (impl_arePeople.f (k + 1) a0 a1) := by
  intro a0 a1 k; have ih0 := impl_arePeople.mono_l k; unfold impl_arePeople.f
  repeat' first
      | (with_reducible exact ih0 _ _ _ _)
      | (with_reducible exact LeO.refl _)
      | (with_reducible exact LeO.none _)
      | (with_reducible refine LeO.ite ?_ ?_)
      | (with_reducible refine LeO.bind ?_ (fun _ => ?_))
      | exact ih0 _ _ _ _
      | exact LeO.none _
      | refine LeO.ite ?_ ?_
      | refine LeO.bind ?_ (fun _ => ?_)
set_option maxHeartbeats 8000000 in
set_option maxRecDepth 100000 in
theorem impl_arePeople.calls (k : Nat) (a0 : Int) (A1 : Option Addr) (c1 : Nat) (l1 : List Int) (r : Bool) (w : World) (hr1 : Kd.C (Kd.int .i64) w A1 l1.length l1) (hc1 : l1.length ≤ c1) (h : impl_arePeople.f k a0 l1 = some r) :
    Calls Try.prog 83 #[.int .i64 a0, .slice A1 l1.length c1] w fun e w' => e = .returned (.bool r) ∧ Drawn0 w w' := by
  have HR1 := A_ hr1; have HC1 := A_ hc1; clear hr1 hc1; have H : (impl_arePeople.l0 k a0 l1 (l1.length : Int) 0) = some r := h; clear h; have H' := A_ H; clear H; go_enter Try.func83, Try.ntmps83; go_wp2; go_loopg [9] k (fun kq v9 w' => ∃ (x9_1 : Int), v9 = .int .i64 x9_1 ∧ Aside0 (impl_arePeople.l0 kq a0 l1 (l1.length : Int) x9_1 = some r) ∧ Aside0 (kq ≤ k) ∧ Drawn0 w w')
  case atStart => exact ⟨(0), z11_, H', ⟨Nat.le_refl _⟩, z21_⟩
  case round =>
    clear H'; (try clear c1); (try clear p2); obtain ⟨x9_1, rfl, HA, HK1, ⟨m1, rfl⟩⟩ := hrel
    cases gk with
    | zero => exact absurd HA.out (by simp [impl_arePeople.l0])
    | succ k1 =>
      have H := HA.out; clear HA; simp only [impl_arePeople.l0] at H; by_cases c3 : x9_1 < (l1.length : Int)
      · rw [if_pos c3] at H; have c3b0 : decide (x9_1 < (l1.length : Int)) = true := decide_eq_true c3; clear c3; by_cases c4 : 0 ≤ x9_1
        · rw [if_pos c4] at H; have c4b0 : decide (0 ≤ x9_1) = true := decide_eq_true c4; clear c4; by_cases c5 : x9_1 < (l1.length : Int)
          · rw [if_pos c5] at H; have c5b0 : decide (x9_1 < (l1.length : Int)) = true := decide_eq_true c5; clear c5; by_cases c6 : (rd l1 x9_1) < 0
            · rw [if_pos c6] at H; have c6b0 : decide ((rd l1 x9_1) < 0) = true := decide_eq_true c6; clear c6; obtain rfl := Option.some.inj H; have p103 : 0 ≤ (x9_1 : Int) := of_decide_eq_true z3_; have q103 : x9_1 < (l1.length : Int) := of_decide_eq_true z3_; obtain ⟨ad103, e103, hx103_0⟩ := Kd.at_int HR1.out x9_1 p103 q103; cases e103; replace p103 := eq_true p103; replace q103 := eq_true q103; go_wp2; go_ret; exact ⟨z11_, z21_⟩
            · rw [if_neg c6] at H; have c6b0 : decide ((rd l1 x9_1) < 0) = false := decide_eq_false c6; clear c6; by_cases c7 : (rd l1 x9_1) ≥ a0
              · rw [if_pos c7] at H; have c7b0 : decide (a0 ≤ (rd l1 x9_1)) = true := decide_eq_true c7; clear c7; obtain rfl := Option.some.inj H; have p103 : 0 ≤ (x9_1 : Int) := of_decide_eq_true z3_; have q103 : x9_1 < (l1.length : Int) := of_decide_eq_true z3_; obtain ⟨ad103, e103, hx103_0⟩ := Kd.at_int HR1.out x9_1 p103 q103; cases e103; replace p103 := eq_true p103; replace q103 := eq_true q103; go_wp2; go_ret; exact ⟨z11_, z21_⟩
              · rw [if_neg c7] at H; have c7b0 : decide (a0 ≤ (rd l1 x9_1)) = false := decide_eq_false c7; clear c7; have H' := A_ H; clear H; have p103 : 0 ≤ (x9_1 : Int) := of_decide_eq_true z3_; have q103 : x9_1 < (l1.length : Int) := of_decide_eq_true z3_; obtain ⟨ad103, e103, hx103_0⟩ := Kd.at_int HR1.out x9_1 p103 q103; cases e103; replace p103 := eq_true p103; replace q103 := eq_true q103; go_wp2; go_roundg k1
                case measure => have := HK1.out; omega
                case rel => exact ⟨(wrap64 (x9_1 + 1)), z11_, H', ⟨z46_⟩, z21_⟩
          · rw [if_neg c5] at H; exact absurd H (by simp)
        · rw [if_neg c4] at H; exact absurd H (by simp)
      · rw [if_neg c3] at H; have c3b0 : decide (x9_1 < (l1.length : Int)) = false := decide_eq_false c3; clear c3; obtain rfl := Option.some.inj H; go_wp2; go_ret; exact ⟨z11_, z21_⟩

/-! ### impl_debtsCode: function 56 -/
def impl_debtsCode.f (k : Nat) (a0 : Int) (l1 : List (S65)) (l2 : List Int) : Option (Int) := (impl_ValidDebts.f k a0 l1).bind fun t104 => (if t104 = true then ((impl_arePeople.f k a0 l2).bind fun t105 => (if t105 = true then (some 0) else (some 2))) else (some 1))
theorem impl_debtsCode.mono : ∀ a0 a1 a2 k, LeO (impl_debtsCode.f k a0 a1 a2) (impl_debtsCode.f (k + 1) a0 a1 a2) := by
  intro a0 a1 a2 k; unfold impl_debtsCode.f
  repeat' first
      | (with_reducible exact impl_ValidDebts.mono _ _ _)
      | (with_reducible exact impl_arePeople.mono _ _ _)
      | (with_reducible exact LeO.refl _)
      | (with_reducible exact LeO.none _)
      | (with_reducible refine LeO.ite ?_ ?_)
      | (with_reducible refine LeO.bind ?_ (fun _ => ?_))
      | exact impl_ValidDebts.mono _ _ _
      | exact impl_arePeople.mono _ _ _
      | exact LeO.none _
      | refine LeO.ite ?_ ?_
      | refine LeO.bind ?_ (fun _ => ?_)
set_option maxHeartbeats 8000000 in
set_option maxRecDepth 100000 in
theorem impl_debtsCode.calls (k : Nat) (a0 : Int) (A1 : Option Addr) (c1 : Nat) (l1 : List (S65)) (A2 : Option Addr) (c2 : Nat) (l2 : List Int) (r : Int) (w : World) (hr1 : Kd.C k65 w A1 l1.length l1) (hc1 : l1.length ≤ c1) (hr2 : Kd.C (Kd.int .i64) w A2 l2.length l2) (hc2 : l2.length ≤ c2) (h : impl_debtsCode.f k a0 l1 l2 = some r) :
    Calls Try.prog 56 #[.int .i64 a0, .slice A1 l1.length c1, .slice A2 l2.length c2] w fun e w' => e = .returned (.int .i64 r) ∧ Below w.heap.size w w' := by
  have HR1 := A_ hr1; have HC1 := A_ hc1; clear hr1 hc1; have HR2 := A_ hr2; have HC2 := A_ hc2; clear hr2 hc2; have HB := A_ (Below.refl w.heap.size w); have H : ((impl_ValidDebts.f k a0 l1).bind fun t104 => (if t104 = true then ((impl_arePeople.f k a0 l2).bind fun t105 => (if t105 = true then (some 0) else (some 2))) else (some 1))) = some r := h; clear h; replace H := Option.bind_eq_some_iff.mp H; obtain ⟨t104, A40, H⟩ := H; replace H : (if t104 = true then ((impl_arePeople.f k a0 l2).bind fun t105 => (if t105 = true then (some 0) else (some 2))) else (some 1)) = some r := H; have A4 := A_ A40; clear A40; by_cases c5 : t104 = true
  · subst c5; (have H1 : ((impl_arePeople.f k a0 l2).bind fun t105 => (if t105 = true then (some 0) else (some 2))) = some r := z36_); clear H; have H := H1; clear H1; replace H := Option.bind_eq_some_iff.mp H; obtain ⟨t105, A60, H⟩ := H; replace H : (if t105 = true then (some 0) else (some 2)) = some r := H; have A6 := A_ A60; clear A60; by_cases c7 : t105 = true
    · subst c7; (have H1 : (some 0) = some r := z36_); clear H; have H := H1; clear H1; obtain rfl := Option.some.inj H; go_enter Try.func56, Try.ntmps56; go_wp2_with (first | ((with_reducible refine gate_callee (f := 61) rfl ?_); refine goesL_ (some 10) rfl rfl Try.func61 z13_ rfl #[.int .i64 a0, .slice A1 l1.length c1] rfl z2_ ?_; (with_reducible refine (impl_ValidDebts.calls k a0 _ _ l1 true _ ?side1 ?side2 A4.out).mono ?_); (case side1 => repeat (first | exact HR1.out | (with_reducible refine Kd.C_alloc ?_ _) | (with_reducible refine Kd.C_drewN ?_ _) | (with_reducible refine Kd.C_drew ?_))); (case side2 => exact HC1.out); rintro e w8 ⟨rfl, hb⟩; refine ⟨_, rfl, ?_⟩; have n0_ := A_ (below_step z0_ hb); clear HB; have HB := n0_; clear n0_; (try clear hb); (try clear hb2); (try clear hk); (try clear hi)) | ((with_reducible refine gate_callee (f := 83) rfl ?_); refine goesL_ (some 15) rfl rfl Try.func83 z13_ rfl #[.int .i64 a0, .slice A2 l2.length c2] rfl z2_ ?_; (with_reducible refine (impl_arePeople.calls k a0 _ _ l2 true _ ?side1 ?side2 A6.out).mono ?_); (case side1 => repeat (first | exact (Kd.C_below HR2.out HB.out) | (with_reducible refine Kd.C_alloc ?_ _) | (with_reducible refine Kd.C_drewN ?_ _) | (with_reducible refine Kd.C_drew ?_))); (case side2 => exact HC2.out); rintro e w' ⟨rfl, ⟨nd, rfl⟩⟩; refine ⟨_, rfl, ?_⟩)); go_ret; exact ⟨z10_, z0_⟩
    · replace c7 := Bool.eq_false_iff.mpr c7; subst c7; (have H1 : (some 2) = some r := z17_); clear H; have H := H1; clear H1; obtain rfl := Option.some.inj H; go_enter Try.func56, Try.ntmps56; go_wp2_with (first | ((with_reducible refine gate_callee (f := 61) rfl ?_); refine goesL_ (some 10) rfl rfl Try.func61 z13_ rfl #[.int .i64 a0, .slice A1 l1.length c1] rfl z2_ ?_; (with_reducible refine (impl_ValidDebts.calls k a0 _ _ l1 true _ ?side1 ?side2 A4.out).mono ?_); (case side1 => repeat (first | exact HR1.out | (with_reducible refine Kd.C_alloc ?_ _) | (with_reducible refine Kd.C_drewN ?_ _) | (with_reducible refine Kd.C_drew ?_))); (case side2 => exact HC1.out); rintro e w9 ⟨rfl, hb⟩; refine ⟨_, rfl, ?_⟩; have n0_ := A_ (below_step z0_ hb); clear HB; have HB := n0_; clear n0_; (try clear hb); (try clear hb2); (try clear hk); (try clear hi)) | ((with_reducible refine gate_callee (f := 83) rfl ?_); refine goesL_ (some 15) rfl rfl Try.func83 z13_ rfl #[.int .i64 a0, .slice A2 l2.length c2] rfl z2_ ?_; (with_reducible refine (impl_arePeople.calls k a0 _ _ l2 false _ ?side1 ?side2 A6.out).mono ?_); (case side1 => repeat (first | exact (Kd.C_below HR2.out HB.out) | (with_reducible refine Kd.C_alloc ?_ _) | (with_reducible refine Kd.C_drewN ?_ _) | (with_reducible refine Kd.C_drew ?_))); (case side2 => exact HC2.out); rintro e w' ⟨rfl, ⟨nd, rfl⟩⟩; refine ⟨_, rfl, ?_⟩)); go_ret; exact ⟨z10_, z0_⟩
  · replace c5 := Bool.eq_false_iff.mpr c5; subst c5; (have H1 : (some 1) = some r := z17_); clear H; have H := H1; clear H1; obtain rfl := Option.some.inj H; go_enter Try.func56, Try.ntmps56; go_wp2_with (first | ((with_reducible refine gate_callee (f := 61) rfl ?_); refine goesL_ (some 10) rfl rfl Try.func61 z13_ rfl #[.int .i64 a0, .slice A1 l1.length c1] rfl z2_ ?_; (with_reducible refine (impl_ValidDebts.calls k a0 _ _ l1 false _ ?side1 ?side2 A4.out).mono ?_); (case side1 => repeat (first | exact HR1.out | (with_reducible refine Kd.C_alloc ?_ _) | (with_reducible refine Kd.C_drewN ?_ _) | (with_reducible refine Kd.C_drew ?_))); (case side2 => exact HC1.out); rintro e w10 ⟨rfl, hb⟩; refine ⟨_, rfl, ?_⟩; have n0_ := A_ (below_step z0_ hb); clear HB; have HB := n0_; clear n0_; (try clear hb); (try clear hb2); (try clear hk); (try clear hi))); go_ret; exact ⟨z10_, z0_⟩

/-! ### impl_sumsOf: function 57 -/
def impl_sumsOf.l0 : Nat → List (S65) → Int → Int → Vector Int 256 → Option (Vector Int 256)
  | 0, _, _, _, _ => none
  | k + 1, x7, x8, x9, x108000 => if x9 < x8 then (if 0 ≤ x9 then (if x9 < (x7.length : Int) then (if 0 ≤ ((rd_T65 x7 x9).f0) then (if ((rd_T65 x7 x9).f0) < 16 then (if 0 ≤ ((rd_T65 x7 x9).f1) then (if ((rd_T65 x7 x9).f1) < 16 then (impl_sumsOf.l0 k x7 x8 (wrap64 (x9 + 1)) (Arr.vst2 16 x108000 ((rd_T65 x7 x9).f0) ((rd_T65 x7 x9).f1) (wrap64 ((Arr.vrd2 16 x108000 ((rd_T65 x7 x9).f0) ((rd_T65 x7 x9).f1)) + ((rd_T65 x7 x9).f2))))) else (none)) else (none)) else (none)) else (none)) else (none)) else (none)) else (some x108000)
def impl_sumsOf.f (k : Nat) (l0 : List (S65)) : Option (Vector Int 256) := impl_sumsOf.l0 k l0 (l0.length : Int) 0 (Vector.replicate 256 0 : Vector Int 256)
theorem impl_sumsOf.mono_l : ∀ k, (∀ y0 y1 y2 y3, LeO (impl_sumsOf.l0 k y0 y1 y2 y3) (impl_sumsOf.l0 (k + 1) y0 y1 y2 y3))
  | 0 => fun _ _ _ _ r h => by simp [impl_sumsOf.l0] at h
  | k + 1 => by
    have ih0 := impl_sumsOf.mono_l k
    · intro y0 y1 y2 y3
      unfold impl_sumsOf.l0
      repeat' first
      | (with_reducible exact ih0 _ _ _ _)
      | (with_reducible exact LeO.refl _)
      | (with_reducible exact LeO.none _)
      | (with_reducible refine LeO.ite ?_ ?_)
      | (with_reducible refine LeO.bind ?_ (fun _ => ?_))
      | exact ih0 _ _ _ _
      | exact LeO.none _
      | refine LeO.ite ?_ ?_
      | refine LeO.bind ?_ (fun _ => ?_)
theorem impl_sumsOf.mono : ∀ a0 k, LeO (impl_sumsOf.f k a0) (impl_sumsOf.f (k + 1) a0) := by
  intro a0 k; have ih0 := impl_sumsOf.mono_l k; unfold impl_sumsOf.f
  repeat' first
      | (with_reducible exact ih0 _ _ _ _)
      | (with_reducible exact LeO.refl _)
      | (with_reducible exact LeO.none _)
      | (with_reducible refine LeO.ite ?_ ?_)
      | (with_reducible refine LeO.bind ?_ (fun _ => ?_))
      | exact ih0 _ _ _ _
      | exact LeO.none _
      | refine LeO.ite ?_ ?_
      | refine LeO.bind ?_ (fun _ => ?_)
def impl_sumsOf.T5 : Bool × List (List Nat × List Nat) := (true, [([], []), ([0], [0]), ([], []), ([2], [2]), ([1], [1]), ([4, 3], [3, 4]), ([5], [5]), ([], []), ([7], [7]), ([6, 8], [6, 8]), ([1], [1]), ([10, 3, 0, 1, 2, 3, 4, 5, 6, 7, 8, 9], [3, 10]), ([11, 9, 0, 1, 2, 3, 4, 5, 6, 7, 8, 9], [9, 11])])
def impl_sumsOf.B5 : List Nat := [0, 1, 0, 4, 3, 31, 63, 0, 128, 511, 3, 2047, 4095]
theorem impl_sumsOf.tab5 : rtab .any (opsOf Try.f57 5) = impl_sumsOf.T5 := by kernel_rfl
theorem impl_sumsOf.bits5 : waitsOk impl_sumsOf.T5.2 impl_sumsOf.B5 = true := by kernel_rfl
set_option maxHeartbeats 8000000 in
set_option maxRecDepth 100000 in
theorem impl_sumsOf.calls (k : Nat) (A0 : Option Addr) (c0 : Nat) (l0 : List (S65)) (r : Vector Int 256) (w : World) (hr0 : Kd.C k65 w A0 l0.length l0) (hc0 : l0.length ≤ c0) (h : impl_sumsOf.f k l0 = some r) :
    Calls Try.prog 57 #[.slice A0 l0.length c0] w fun e w' => e = .returned (.agg (⟨Arr.arL .i64 r⟩ : Array Value)) ∧ Below w.heap.size w w' := by
  have hu70 := Try.underlying70; have hu65 := Try.underlying65; have HR0 := A_ hr0; have HC0 := A_ hc0; clear hr0 hc0; have HB := A_ (Below.refl w.heap.size w); have H : (impl_sumsOf.l0 k l0 (l0.length : Int) 0 (Vector.replicate 256 0 : Vector Int 256)) = some r := h; clear h; have H' := A_ H; clear H; go_enter Try.func57, Try.ntmps57; go_wp2_with (first | ((with_reducible refine gate_dst (N := 2) rfl ?_); refine box_event ?hg (N := 2) ?hd (cs := (⟨Arr.arL .i64 (Vector.replicate 256 0 : Vector Int 256)⟩ : Array Value)) (t := 70) ?hr ?_; (case hd => rfl); (case hg => rfl); (case hr => first | (go_simp; done) | (go_simp; rfl)); intro gb106 hg w3 hbox hb; have n0_ := A_ (below_step z0_ hb); have n1_ := A_ (hbox); have n2_ := A_ ((by rw [hg]; exact (below_size z0_) : w.heap.size ≤ gb106)); have n3_ := A_ ((by rw [hg]; exact (below_size z0_) : w.heap.size ≤ gb106)); clear HB; have HB := n0_; have BK106 := n1_; have GW106 := n2_; have GE106 := n3_; clear n0_ n1_ n2_ n3_; clear hb hbox hg) | ((with_reducible refine gate_dst (N := 3) rfl ?_); refine box_event ?hg (N := 3) ?hd (cs := (⟨Arr.arL .i64 (Vector.replicate 256 0 : Vector Int 256)⟩ : Array Value)) (t := 70) ?hr ?_; (case hd => rfl); (case hg => rfl); (case hr => first | (go_simp; done) | (go_simp; rfl)); intro gb107 hg w4 hbox hb; have n0_ := A_ (blk_below (g := gb106) (o := .cells (⟨Arr.arL .i64 (Vector.replicate 256 0 : Vector Int 256)⟩ : Array Value) 70 (0, 0)) z33_ hb); have n1_ := A_ (below_step z88_ hb); have n2_ := A_ (hbox); have n3_ := A_ ((by rw [hg]; exact (below_size z88_) : w.heap.size ≤ gb107)); have n4_ := A_ ((by rw [hg]; exact (below_size z88_) : w.heap.size ≤ gb107)); have n5_ := A_ ((by rw [hg]; exact Nat.ne_of_lt (blk_lt (g := gb106) (o := .cells (⟨Arr.arL .i64 (Vector.replicate 256 0 : Vector Int 256)⟩ : Array Value) 70 (0, 0)) z33_) : gb106 ≠ gb107)); have n6_ := A_ ((by rw [hg]; exact Nat.ne_of_gt (blk_lt (g := gb106) (o := .cells (⟨Arr.arL .i64 (Vector.replicate 256 0 : Vector Int 256)⟩ : Array Value) 70 (0, 0)) z33_) : gb107 ≠ gb106)); clear BK106; clear HB; have BK106 := n0_; have HB := n1_; have BK107 := n2_; have GW107 := n3_; have GE107 := n4_; have NB106_107 := n5_; have NB107_106 := n6_; clear n0_ n1_ n2_ n3_ n4_ n5_ n6_; clear hb hbox hg) | ((with_reducible refine gate_store (t := 70) (p := 3) rfl ?_); refine Arr.storeA ?hg (T := 70) (p := 3) (v := ?vo_w5) ?ho ?hn (g := gb107) (off := 0) ?hx (m := (Arr.arL .i64 (Vector.replicate 256 0 : Vector Int 256))) ?hy (t := 70) (pre := []) (old := (Arr.arL .i64 (Vector.replicate 256 0 : Vector Int 256))) (show w4.heap[gb107]? = some (.cells (⟨Arr.arL .i64 (Vector.replicate 256 0 : Vector Int 256)⟩ : Array Value) 70 (0, 0)) from z35_) rfl z56_ (n := 256) z13_ z56_ (Arr.ones_0 ) ?_; (case ho => rfl); (case hg => rfl); (case hn => rfl); (case hx => first | (go_simp; done) | rfl | (go_simp; rfl)); (case hy => first | (go_simp; done) | rfl | (go_simp; rfl)); intro w5 hbx hg hbe; replace hbx : w5.heap[gb107]? = some (.cells (⟨Arr.arL .i64 (Vector.replicate 256 0 : Vector Int 256)⟩ : Array Value) 70 (0, 0)) := hbx; have n0_ := A_ (blk_grown (g := gb106) (o := .cells (⟨Arr.arL .i64 (Vector.replicate 256 0 : Vector Int 256)⟩ : Array Value) 70 (0, 0)) z33_ hg (fun e_ => NB106_107.out (Option.some.inj e_))); have n1_ := A_ (hbx); have n2_ := A_ (hbe _ _ z34_ GE107.out); clear BK106; clear BK107; clear HB; have BK106 := n0_; have BK107 := n1_; have HB := n2_; clear n0_ n1_ n2_; (try clear hbx hg hbe))); go_loopg [9] k (fun kq v9 w' => ∃ (x9_1 : Int) (x108000_1 : Vector Int 256), v9 = .int .i64 x9_1 ∧ Aside0 (impl_sumsOf.l0 kq l0 (l0.length : Int) x9_1 x108000_1 = some r) ∧ Aside0 (kq ≤ k) ∧ Aside0 (w'.heap[gb106]? = some (.cells (⟨Arr.arL .i64 (Vector.replicate 256 0 : Vector Int 256)⟩ : Array Value) 70 (0, 0))) ∧ Aside0 (w'.heap[gb107]? = some (.cells (⟨Arr.arL .i64 x108000_1⟩ : Array Value) 70 (0, 0))) ∧ Aside0 (Below w.heap.size w w'))
  case atStart => exact ⟨(0), ((Vector.replicate 256 0 : Vector Int 256)), z11_, H', ⟨Nat.le_refl _⟩, ⟨z33_⟩, ⟨z35_⟩, ⟨z34_⟩⟩
  case round =>
    clear H'; (try clear p2); (try clear c5); obtain ⟨x9_1, x108000_1, rfl, HA, HK1, BK106, BK107, HB⟩ := hrel
    cases gk with
    | zero => exact absurd HA.out (by simp [impl_sumsOf.l0])
    | succ k1 =>
      have H := HA.out; clear HA; simp only [impl_sumsOf.l0] at H; by_cases c6 : x9_1 < (l0.length : Int)
      · rw [if_pos c6] at H; have c6b0 : decide (x9_1 < (l0.length : Int)) = true := decide_eq_true c6; clear c6; by_cases c7 : 0 ≤ x9_1
        · rw [if_pos c7] at H; have c7b0 : decide (0 ≤ x9_1) = true := decide_eq_true c7; clear c7; by_cases c8 : x9_1 < (l0.length : Int)
          · rw [if_pos c8] at H; have c8b0 : decide (x9_1 < (l0.length : Int)) = true := decide_eq_true c8; clear c8; by_cases c9 : 0 ≤ ((rd_T65 l0 x9_1).f0)
            · rw [if_pos c9] at H; have c9b0 : decide (0 ≤ ((rd_T65 l0 x9_1).f0)) = true := decide_eq_true c9; clear c9; by_cases c10 : ((rd_T65 l0 x9_1).f0) < 16
              · rw [if_pos c10] at H; have c10b0 : decide (((rd_T65 l0 x9_1).f0) < 16) = true := decide_eq_true c10; clear c10; by_cases c12 : 0 ≤ ((rd_T65 l0 x9_1).f1)
                · rw [if_pos c12] at H; have c12b0 : decide (0 ≤ ((rd_T65 l0 x9_1).f1)) = true := decide_eq_true c12; clear c12; by_cases c13 : ((rd_T65 l0 x9_1).f1) < 16
                  · rw [if_pos c13] at H; have c13b0 : decide (((rd_T65 l0 x9_1).f1) < 16) = true := decide_eq_true c13; clear c13; obtain ⟨y110, hy110⟩ : ∃ y_ : Vector Int 256, y_ = (Arr.vst2 16 x108000_1 ((rd_T65 l0 x9_1).f0) ((rd_T65 l0 x9_1).f1) (wrap64 ((Arr.vrd2 16 x108000_1 ((rd_T65 l0 x9_1).f0) ((rd_T65 l0 x9_1).f1)) + ((rd_T65 l0 x9_1).f2)))) := ⟨_, rfl⟩; (replace H : (impl_sumsOf.l0 k1 l0 (l0.length : Int) (wrap64 (x9_1 + 1)) y110) = some r := by first | (rw [hy110]; with_reducible exact H) | (have H2_ := (Option.bind_some _ _).symm.trans H; rw [hy110]; with_reducible exact H2_) | (have H2_ := (Option.bind_some _ _).symm.trans H; with_reducible exact H2_) | with_reducible exact H | (rw [hy110]; exact H) | exact H); have Ny110 := A_ hy110; clear hy110; have H' := A_ H; clear H; have p108 : 0 ≤ (x9_1 : Int) := of_decide_eq_true z3_; have q108 : x9_1 < (l0.length : Int) := of_decide_eq_true z3_; obtain ⟨ad108, e108, hx108_0, hx108_1, hx108_2⟩ := at_T65 HR0.out x9_1 p108 q108; cases e108; replace hx108_0 := (HB.out.cell (bl_ w _ hx108_0)).trans hx108_0; replace hx108_1 := (HB.out.cell (bl_ w _ hx108_1)).trans hx108_1; replace hx108_2 := (HB.out.cell (bl_ w _ hx108_2)).trans hx108_2; replace p108 := eq_true p108; replace q108 := eq_true q108; (try go_wp2_with (first | ((with_reducible refine gate_dst (N := 5) rfl ?_); refine box_event ?hg (N := 5) ?hd (cs := #[.int .i64 0, .int .i64 0, .int .i64 0]) (t := 65) ?hr ?_; (case hd => rfl); (case hg => rfl); (case hr => first | (go_simp; done) | (go_simp; rfl)); intro gb109 hg w19 hbox hb; have n0_ := A_ (blk_below (g := gb106) (o := .cells (⟨Arr.arL .i64 (Vector.replicate 256 0 : Vector Int 256)⟩ : Array Value) 70 (0, 0)) z33_ hb); have n1_ := A_ (blk_below (g := gb107) (o := .cells (⟨Arr.arL .i64 x108000_1⟩ : Array Value) 70 (0, 0)) z35_ hb); have n2_ := A_ (below_step z34_ hb); have n3_ := A_ (hbox); have n4_ := A_ ((by rw [hg]; exact (below_size z34_) : w.heap.size ≤ gb109)); have n5_ := A_ ((by rw [hg]; exact (below_size z34_) : w.heap.size ≤ gb109)); have n6_ := A_ ((by rw [hg]; exact Nat.ne_of_lt (blk_lt (g := gb106) (o := .cells (⟨Arr.arL .i64 (Vector.replicate 256 0 : Vector Int 256)⟩ : Array Value) 70 (0, 0)) z33_) : gb106 ≠ gb109)); have n7_ := A_ ((by rw [hg]; exact Nat.ne_of_gt (blk_lt (g := gb106) (o := .cells (⟨Arr.arL .i64 (Vector.replicate 256 0 : Vector Int 256)⟩ : Array Value) 70 (0, 0)) z33_) : gb109 ≠ gb106)); have n8_ := A_ ((by rw [hg]; exact Nat.ne_of_lt (blk_lt (g := gb107) (o := .cells (⟨Arr.arL .i64 x108000_1⟩ : Array Value) 70 (0, 0)) z35_) : gb107 ≠ gb109)); have n9_ := A_ ((by rw [hg]; exact Nat.ne_of_gt (blk_lt (g := gb107) (o := .cells (⟨Arr.arL .i64 x108000_1⟩ : Array Value) 70 (0, 0)) z35_) : gb109 ≠ gb107)); clear BK106; clear BK107; clear HB; have BK106 := n0_; have BK107 := n1_; have HB := n2_; have BK109 := n3_; have GW109 := n4_; have GE109 := n5_; have NB106_109 := n6_; have NB109_106 := n7_; have NB107_109 := n8_; have NB109_107 := n9_; clear n0_ n1_ n2_ n3_ n4_ n5_ n6_ n7_ n8_ n9_; clear hb hbox hg; have hnb20 := NB109_106.out; have hnc20 := NB106_109.out; have hnb21 := NB109_107.out; have hnc21 := NB107_109.out; have hcz22_0 : w19.cell? ⟨gb109, 0, none⟩ = some (.int .i64 0) := (blk_cell BK109.out 0).trans rfl; have hcz22_1 : w19.cell? ⟨gb109, 1, none⟩ = some (.int .i64 0) := (blk_cell BK109.out 1).trans rfl; have hcz22_2 : w19.cell? ⟨gb109, 2, none⟩ = some (.int .i64 0) := (blk_cell BK109.out 2).trans rfl; have hfz22_0 := blk_frozen BK109.out 0; have hfz22_1 := blk_frozen BK109.out 1; have hfz22_2 := blk_frozen BK109.out 2))); have n0_ : Aside0 ((((w19.setCell ⟨gb109, 0, none⟩ (.int .i64 ((rd_T65 l0 x9_1).f0))).setCell ⟨gb109, 1, none⟩ (.int .i64 ((rd_T65 l0 x9_1).f1))).setCell ⟨gb109, 2, none⟩ (.int .i64 ((rd_T65 l0 x9_1).f2))).heap[gb106]? = some (.cells (⟨Arr.arL .i64 (Vector.replicate 256 0 : Vector Int 256)⟩ : Array Value) 70 (0, 0))) := ⟨by (with_reducible repeat (first | refine blk_drewN ?_ _ | refine blk_drew ?_ | refine blk_alloc ?_ _)); refine blk_far ?_ NB106_109.out _; (with_reducible repeat (first | refine blk_drewN ?_ _ | refine blk_drew ?_ | refine blk_alloc ?_ _)); refine blk_far ?_ NB106_109.out _; (with_reducible repeat (first | refine blk_drewN ?_ _ | refine blk_drew ?_ | refine blk_alloc ?_ _)); refine blk_far ?_ NB106_109.out _; (with_reducible repeat (first | refine blk_drewN ?_ _ | refine blk_drew ?_ | refine blk_alloc ?_ _)); exact BK106.out⟩; have n1_ : Aside0 ((((w19.setCell ⟨gb109, 0, none⟩ (.int .i64 ((rd_T65 l0 x9_1).f0))).setCell ⟨gb109, 1, none⟩ (.int .i64 ((rd_T65 l0 x9_1).f1))).setCell ⟨gb109, 2, none⟩ (.int .i64 ((rd_T65 l0 x9_1).f2))).heap[gb107]? = some (.cells (⟨Arr.arL .i64 x108000_1⟩ : Array Value) 70 (0, 0))) := ⟨by (with_reducible repeat (first | refine blk_drewN ?_ _ | refine blk_drew ?_ | refine blk_alloc ?_ _)); refine blk_far ?_ NB107_109.out _; (with_reducible repeat (first | refine blk_drewN ?_ _ | refine blk_drew ?_ | refine blk_alloc ?_ _)); refine blk_far ?_ NB107_109.out _; (with_reducible repeat (first | refine blk_drewN ?_ _ | refine blk_drew ?_ | refine blk_alloc ?_ _)); refine blk_far ?_ NB107_109.out _; (with_reducible repeat (first | refine blk_drewN ?_ _ | refine blk_drew ?_ | refine blk_alloc ?_ _)); exact BK107.out⟩; have n2_ : Aside0 ((((w19.setCell ⟨gb109, 0, none⟩ (.int .i64 ((rd_T65 l0 x9_1).f0))).setCell ⟨gb109, 1, none⟩ (.int .i64 ((rd_T65 l0 x9_1).f1))).setCell ⟨gb109, 2, none⟩ (.int .i64 ((rd_T65 l0 x9_1).f2))).heap[gb109]? = some (.cells #[.int .i64 ((rd_T65 l0 x9_1).f0), .int .i64 ((rd_T65 l0 x9_1).f1), .int .i64 ((rd_T65 l0 x9_1).f2)] 65 (0, 0))) := ⟨by (with_reducible repeat (first | refine blk_drewN ?_ _ | refine blk_drew ?_ | refine blk_alloc ?_ _)); refine blk_put (cs := #[.int .i64 ((rd_T65 l0 x9_1).f0), .int .i64 ((rd_T65 l0 x9_1).f1), .int .i64 0]) ?_ 2 _ rfl; (with_reducible repeat (first | refine blk_drewN ?_ _ | refine blk_drew ?_ | refine blk_alloc ?_ _)); refine blk_put (cs := #[.int .i64 ((rd_T65 l0 x9_1).f0), .int .i64 0, .int .i64 0]) ?_ 1 _ rfl; (with_reducible repeat (first | refine blk_drewN ?_ _ | refine blk_drew ?_ | refine blk_alloc ?_ _)); refine blk_put (cs := #[.int .i64 0, .int .i64 0, .int .i64 0]) ?_ 0 _ rfl; (with_reducible repeat (first | refine blk_drewN ?_ _ | refine blk_drew ?_ | refine blk_alloc ?_ _)); exact BK109.out⟩; have n3_ : Aside0 (Below w.heap.size w (((w19.setCell ⟨gb109, 0, none⟩ (.int .i64 ((rd_T65 l0 x9_1).f0))).setCell ⟨gb109, 1, none⟩ (.int .i64 ((rd_T65 l0 x9_1).f1))).setCell ⟨gb109, 2, none⟩ (.int .i64 ((rd_T65 l0 x9_1).f2)))) := ⟨z75_⟩; (try clear BK106); (try clear BK107); (try clear BK109); (try clear HB); generalize (((w19.setCell ⟨gb109, 0, none⟩ (.int .i64 ((rd_T65 l0 x9_1).f0))).setCell ⟨gb109, 1, none⟩ (.int .i64 ((rd_T65 l0 x9_1).f1))).setCell ⟨gb109, 2, none⟩ (.int .i64 ((rd_T65 l0 x9_1).f2))) = w23 at n0_ n1_ n2_ n3_ ⊢; have BK106 := n0_; have BK107 := n1_; have BK109 := n2_; have HB := n3_; clear n0_ n1_ n2_ n3_; have n0_ := A_ (blk_drew BK106.out); have n1_ := A_ (blk_drew BK107.out); have n2_ := A_ (blk_drew BK109.out); have n3_ := A_ (below_drew1 HB.out); clear BK106; clear BK107; clear BK109; clear HB; have BK106 := n0_; have BK107 := n1_; have BK109 := n2_; have HB := n3_; clear n0_ n1_ n2_ n3_; have p11 : 0 ≤ (((rd_T65 l0 x9_1).f0) : Int) := of_decide_eq_true z3_; have q11 : (((rd_T65 l0 x9_1).f0) : Int) < 16 := of_decide_eq_true z3_; replace p11 := eq_true p11; replace q11 := eq_true q11; have p14 : 0 ≤ (((rd_T65 l0 x9_1).f1) : Int) := of_decide_eq_true z3_; have q14 : (((rd_T65 l0 x9_1).f1) : Int) < 16 := of_decide_eq_true z3_; replace p14 := eq_true p14; replace q14 := eq_true q14; have p16 : 0 ≤ (((rd_T65 l0 x9_1).f0) : Int) := of_decide_eq_true z3_; have q16 : (((rd_T65 l0 x9_1).f0) : Int) < 16 := of_decide_eq_true z3_; replace p16 := eq_true p16; replace q16 := eq_true q16; have p17 : 0 ≤ (((rd_T65 l0 x9_1).f1) : Int) := of_decide_eq_true z3_; have q17 : (((rd_T65 l0 x9_1).f1) : Int) < 16 := of_decide_eq_true z3_; replace p17 := eq_true p17; replace q17 := eq_true q17; refine start_ (n := 13) (S := fun w' => w'.cell? ⟨gb109, 0, none⟩ = some (.int .i64 ((rd_T65 l0 x9_1).f0)) ∧ w'.cell? ⟨gb109, 1, none⟩ = some (.int .i64 ((rd_T65 l0 x9_1).f1)) ∧ w'.cell? ⟨gb109, 2, none⟩ = some (.int .i64 ((rd_T65 l0 x9_1).f2)) ∧ w'.cell? ⟨gb107, ((rd_T65 l0 x9_1).f0).toNat * 16 + ((rd_T65 l0 x9_1).f1).toNat, none⟩ = some (.int .i64 (Arr.vrd2 16 x108000_1 ((rd_T65 l0 x9_1).f0) ((rd_T65 l0 x9_1).f1)))) (ds := [12]) #[false, false, false, false, false, false, false, false, false, false, false, false, false] z13_ rfl rfl ⟨(blk_cell BK109.out 0).trans rfl, (blk_cell BK109.out 1).trans rfl, (blk_cell BK109.out 2).trans rfl, (Arr.cellN (off := 0) (l := (Arr.arL .i64 x108000_1)) (BK107.out) rfl (((rd_T65 l0 x9_1).f0).toNat * 16 + ((rd_T65 l0 x9_1).f1).toNat) (((rd_T65 l0 x9_1).f0).toNat * 16 + ((rd_T65 l0 x9_1).f1).toNat) (by omega) (by have a0_ := of_eq_true p11; have b0_ := of_eq_true q11; have a1_ := of_eq_true p14; have b1_ := of_eq_true q14; omega))⟩ (fun hHeld => ?_); refine with_tabW impl_sumsOf.tab5 impl_sumsOf.bits5 (fun HT_ HW_ => ?_); generalize w23.drew = w24 at BK106 BK107 BK109 HB hHeld ⊢; refine pure_ (i := 0) (N := some 13) (v := ?_) (a' := ?_) #[true, false, false, false, false, false, false, false, false, false, false, false, false] rfl rfl (any_of HT_.out z13_) (fun _ _ _ h => h) (Or.inl ⟨by rfl, ?_⟩) ?_ ?_; rotate_left
                    · intro w'; go_simp; with_reducible rfl
                    rotate_left
                    · exact zp_
                    refine pure_ (i := 2) (N := some 15) (v := ?_) (a' := ?_) #[true, false, true, false, false, false, false, false, false, false, false, false, false] rfl rfl (any_of HT_.out z13_) (fun _ _ _ h => h) (Or.inl ⟨by rfl, ?_⟩) ?_ ?_; rotate_left
                    · intro w'; go_simp; with_reducible rfl
                    rotate_left
                    · exact zp_
                    refine pure_ (i := 7) (N := some 20) (v := ?_) (a' := ?_) #[true, false, true, false, false, false, false, true, false, false, false, false, false] rfl rfl (any_of HT_.out z13_) (fun _ _ _ h => h) (Or.inl ⟨by rfl, ?_⟩) ?_ ?_; rotate_left
                    · intro w'; go_simp; with_reducible rfl
                    rotate_left
                    · exact zp_
                    refine take_ (i := 1) (N := some 14) (v := ?_) (a' := ?_) #[true, true, true, false, false, false, false, true, false, false, false, false, false] rfl rfl (take_ofW HT_.out HW_.out z13_) (fun _ _ _ h => h) (Or.inl ⟨by rfl, ?_⟩) hHeld ?_ ?_; rotate_left
                    · rintro w' ⟨s0, s1, s2, s3⟩; go_simp; with_reducible rfl
                    rotate_left
                    · exact zp_
                    refine pure_ (i := 4) (N := some 17) (v := ?_) (a' := ?_) #[true, true, true, false, true, false, false, true, false, false, false, false, false] rfl rfl (any_of HT_.out z13_) (fun _ _ _ h => h) (Or.inl ⟨by rfl, ?_⟩) ?_ ?_; rotate_left
                    · intro w'; go_simp; with_reducible rfl
                    rotate_left
                    · exact zp_
                    refine pure_ (i := 10) (N := some 23) (v := ?_) (a' := ?_) #[true, true, true, false, true, false, false, true, false, false, true, false, false] rfl rfl (any_of HT_.out z13_) (fun _ _ _ h => h) (Or.inl ⟨by rfl, ?_⟩) ?_ ?_; rotate_left
                    · intro w'; go_simp; with_reducible rfl
                    rotate_left
                    · exact zp_
                    refine take_ (i := 3) (N := some 16) (v := ?_) (a' := ?_) #[true, true, true, true, true, false, false, true, false, false, true, false, false] rfl rfl (take_ofW HT_.out HW_.out z13_) (fun _ _ _ h => h) (Or.inl ⟨by rfl, ?_⟩) hHeld ?_ ?_; rotate_left
                    · rintro w' ⟨s0, s1, s2, s3⟩; go_simp; with_reducible rfl
                    rotate_left
                    · exact zp_
                    refine pure_ (i := 5) (N := some 18) (v := ?_) (a' := ?_) #[true, true, true, true, true, true, false, true, false, false, true, false, false] rfl rfl (any_of HT_.out z13_) (fun _ _ _ h => h) (Or.inl ⟨by rfl, ?_⟩) ?_ ?_; rotate_left
                    · intro w'; go_simp; with_reducible rfl
                    rotate_left
                    · exact zp_
                    refine take_ (i := 6) (N := some 19) (v := ?_) (a' := ?_) #[true, true, true, true, true, true, true, true, false, false, true, false, false] rfl rfl (take_ofW HT_.out HW_.out z13_) (fun _ _ _ h => h) (Or.inl ⟨by rfl, ?_⟩) hHeld ?_ ?_; rotate_left
                    · rintro w' ⟨s0, s1, s2, s3⟩; go_simp; with_reducible rfl
                    rotate_left
                    · exact zp_
                    refine take_ (i := 8) (N := some 21) (v := ?_) (a' := ?_) #[true, true, true, true, true, true, true, true, true, false, true, false, false] rfl rfl (take_ofW HT_.out HW_.out z13_) (fun _ _ _ h => h) (Or.inl ⟨by rfl, ?_⟩) hHeld ?_ ?_; rotate_left
                    · rintro w' ⟨s0, s1, s2, s3⟩; go_simp; with_reducible rfl
                    rotate_left
                    · exact zp_
                    refine pure_ (i := 9) (N := some 22) (v := ?_) (a' := ?_) #[true, true, true, true, true, true, true, true, true, true, true, false, false] rfl rfl (any_of HT_.out z13_) (fun _ _ _ h => h) (Or.inl ⟨by rfl, ?_⟩) ?_ ?_; rotate_left
                    · intro w'; go_simp; with_reducible rfl
                    rotate_left
                    · exact zp_
                    refine pure_ (i := 11) (N := some 24) (v := ?_) (a' := ?_) #[true, true, true, true, true, true, true, true, true, true, true, true, false] rfl rfl (any_of HT_.out z13_) (fun _ _ _ h => h) (Or.inl ⟨by rfl, ?_⟩) ?_ ?_; rotate_left
                    · intro w'; go_simp; with_reducible rfl
                    rotate_left
                    · exact zp_
                    refine last_ (i := 12) (N := none) #[true, true, true, true, true, true, true, true, true, true, true, true, true] rfl rfl (one_of HT_.out z13_) (by decide) (fun K hK => ?_); have hx18 : w24.cell? ⟨gb107, ((rd_T65 l0 x9_1).f0).toNat * 16 + ((rd_T65 l0 x9_1).f1).toNat, none⟩ = some (.int .i64 (Arr.vrd2 16 x108000_1 ((rd_T65 l0 x9_1).f0) ((rd_T65 l0 x9_1).f1))) := Arr.cellN (off := 0) (l := (Arr.arL .i64 x108000_1)) (show w24.heap[gb107]? = some (.cells (⟨Arr.arL .i64 x108000_1⟩ : Array Value) 70 (0, 0)) from z35_) rfl (((rd_T65 l0 x9_1).f0).toNat * 16 + ((rd_T65 l0 x9_1).f1).toNat) (((rd_T65 l0 x9_1).f0).toNat * 16 + ((rd_T65 l0 x9_1).f1).toNat) (by omega) (by have a0_ := of_eq_true p16; have b0_ := of_eq_true q16; have a1_ := of_eq_true p17; have b1_ := of_eq_true q17; omega); have hf18 := blk_frozen (show w24.heap[gb107]? = some (.cells (⟨Arr.arL .i64 x108000_1⟩ : Array Value) 70 (0, 0)) from z35_) (((rd_T65 l0 x9_1).f0).toNat * 16 + ((rd_T65 l0 x9_1).f1).toNat); refine skip_ (w1 := w24.setCell ⟨gb107, ((rd_T65 l0 x9_1).f0).toNat * 16 + ((rd_T65 l0 x9_1).f1).toNat, none⟩ (.int .i64 (wrap64 ((Arr.vrd2 16 x108000_1 ((rd_T65 l0 x9_1).f0) ((rd_T65 l0 x9_1).f1)) + ((rd_T65 l0 x9_1).f2))))) (by rfl) rfl ?_ ?_
                    · first | (go_simp; done) | (go_simp; rfl)
                    refine hK.out _ _ ?_; clear hK K; refine done_ (done_of HT_.out z13_) ?_; obtain ⟨w25, hw_, hbx, hg, hbe⟩ := Arr.stored_at (g := gb107) (off := 0) (m := ((rd_T65 l0 x9_1).f0).toNat * 16 + ((rd_T65 l0 x9_1).f1).toNat) (n := ((rd_T65 l0 x9_1).f0).toNat * 16 + ((rd_T65 l0 x9_1).f1).toNat) (k := .i64) (y := (wrap64 ((Arr.vrd2 16 x108000_1 ((rd_T65 l0 x9_1).f0) ((rd_T65 l0 x9_1).f1)) + ((rd_T65 l0 x9_1).f2)))) (x := x108000_1) (t := 70) (pre := []) (show w24.heap[gb107]? = some (.cells (⟨Arr.arL .i64 x108000_1⟩ : Array Value) 70 (0, 0)) from z35_) rfl (by omega); rw [hw_]; clear hw_; replace hbx : w25.heap[gb107]? = some (.cells (⟨Arr.arL .i64 y110⟩ : Array Value) 70 (0, 0)) := (by rw [Ny110.out]; exact hbx); have n0_ := A_ (blk_grown (g := gb106) (o := .cells (⟨Arr.arL .i64 (Vector.replicate 256 0 : Vector Int 256)⟩ : Array Value) 70 (0, 0)) z33_ hg (fun e_ => NB106_107.out (Option.some.inj e_))); have n1_ := A_ (hbx); have n2_ := A_ (blk_grown (g := gb109) (o := .cells #[.int .i64 ((rd_T65 l0 x9_1).f0), .int .i64 ((rd_T65 l0 x9_1).f1), .int .i64 ((rd_T65 l0 x9_1).f2)] 65 (0, 0)) (by (with_reducible repeat (first | refine blk_drewN ?_ _ | refine blk_drew ?_ | refine blk_alloc ?_ _)); exact BK109.out) hg (fun e_ => NB109_107.out (Option.some.inj e_))); have n3_ := A_ (hbe _ _ z75_ GE107.out); clear BK106; clear BK107; clear BK109; clear HB; have BK106 := n0_; have BK107 := n1_; have BK109 := n2_; have HB := n3_; clear n0_ n1_ n2_ n3_; (try clear hbx hg hbe); (try go_wp2); go_roundg k1
                    case measure => have := HK1.out; omega
                    case rel => exact ⟨(wrap64 (x9_1 + 1)), (y110), z11_, H', ⟨z46_⟩, ⟨z33_⟩, ⟨z35_⟩, ⟨z75_⟩⟩
                  · rw [if_neg c13] at H; exact absurd H (by simp)
                · rw [if_neg c12] at H; exact absurd H (by simp)
              · rw [if_neg c10] at H; exact absurd H (by simp)
            · rw [if_neg c9] at H; exact absurd H (by simp)
          · rw [if_neg c8] at H; exact absurd H (by simp)
        · rw [if_neg c7] at H; exact absurd H (by simp)
      · rw [if_neg c6] at H; have c6b0 : decide (x9_1 < (l0.length : Int)) = false := decide_eq_false c6; clear c6; obtain rfl := Option.some.inj H; go_wp2_with (first | ((with_reducible refine Arr.gate_load (t := 70) (p := 3) rfl ?_); (try (refine gate_guard (by rfl) ?_; dsimp only)); refine Arr.loadA ?hg (T := 70) (p := 3) ?ho (g := gb107) (off := 0) ?hx (t := 70) (l := (Arr.arL .i64 x108000_1)) (m := (Arr.arL .i64 x108000_1)) (fr := (0, 0)) (show wr.heap[gb107]? = some (.cells (⟨Arr.arL .i64 x108000_1⟩ : Array Value) 70 (0, 0)) from z35_) rfl Try.underlying70 rfl (n := 256) z13_ z56_ ?_; (case hg => rfl); (case ho => rfl); (case hx => first | (go_simp; done) | rfl | (go_simp; rfl))) | ((with_reducible refine gate_store (t := 70) (p := 2) rfl ?_); refine Arr.storeA ?hg (T := 70) (p := 2) (v := ?vo_w28) ?ho ?hn (g := gb106) (off := 0) ?hx (m := (Arr.arL .i64 x108000_1)) ?hy (t := 70) (pre := []) (old := (Arr.arL .i64 (Vector.replicate 256 0 : Vector Int 256))) (show wr.heap[gb106]? = some (.cells (⟨Arr.arL .i64 (Vector.replicate 256 0 : Vector Int 256)⟩ : Array Value) 70 (0, 0)) from z33_) rfl z56_ (n := 256) z13_ z56_ (Arr.ones_0 ) ?_; (case ho => rfl); (case hg => rfl); (case hn => rfl); (case hx => first | (go_simp; done) | rfl | (go_simp; rfl)); (case hy => first | (go_simp; done) | rfl | (go_simp; rfl)); intro w28 hbx hg hbe; replace hbx : w28.heap[gb106]? = some (.cells (⟨Arr.arL .i64 x108000_1⟩ : Array Value) 70 (0, 0)) := hbx; have n0_ := A_ (hbx); have n1_ := A_ (blk_grown (g := gb107) (o := .cells (⟨Arr.arL .i64 x108000_1⟩ : Array Value) 70 (0, 0)) z35_ hg (fun e_ => NB107_106.out (Option.some.inj e_))); have n2_ := A_ (hbe _ _ z34_ GE106.out); clear BK106; clear BK107; clear HB; have BK106 := n0_; have BK107 := n1_; have HB := n2_; clear n0_ n1_ n2_; (try clear hbx hg hbe))); refine bodyPost_ret (results_cell_row rfl _ _ gb106 70 (⟨Arr.arL .i64 x108000_1⟩ : Array Value) (0, 0) _ rfl z33_ Try.underlying70 rfl (by rw [show (Try.prog.info? 70).map (·.size) = some 256 from z13_]; simp [Arr.arL_length])) rfl ?_; exact ⟨z10_, z34_⟩

end Go.Proofs.Ytofcgkcpkngocaa.MCircles
