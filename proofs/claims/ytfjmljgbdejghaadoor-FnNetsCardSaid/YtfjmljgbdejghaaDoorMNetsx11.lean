-- by a program of this session, for this claim
import Derived.Test.YtfjmljgbdejghaaDoorMNetsx0
import Derived.Test.YtfjmljgbdejghaaDoorMNetsx8
import Derived.Test.YtfjmljgbdejghaaDoorMNetsx9
namespace Go.Proofs.YtfjmljgbdejghaaDoor.MNets
open Go.RowKit Go.Proofs.YtfjmljgbdejghaaDoorW.PrintWords Go.Proofs.YtfjmljgbdejghaaDoorW.PrintLast Go.Proofs.YtfjmljgbdejghaaDoorW.PrintMore
attribute [local go_sem] max2_int min2_int max_two min_two max_three min_three max_four min_four   -- for this text's walks alone
set_option linter.unusedVariables false
set_option linter.unusedSimpArgs false

/-! ### impl_OffsetPairs: function 44 -/
mutual
def impl_OffsetPairs.l0 : Nat → Int → Vector Int 256 → Option ((List (S77)) × Int)
  | 0, _, _ => none
  | k + 1, x23, x302000 => if x23 < 16 then (impl_OffsetPairs.l1 k x23 x23 x23 0 x302000) else ((impl_sums_debts.f k x302000).bind fun bt302 => (some (bt302.1, bt302.2)))
def impl_OffsetPairs.l1 : Nat → Int → Int → Int → Int → Vector Int 256 → Option ((List (S77)) × Int)
  | 0, _, _, _, _, _ => none
  | k + 1, x9, x23, x26, x27, x302000 => if x27 < x26 then (if 0 ≤ x9 then (if x9 < 16 then (if 0 ≤ x27 then (if x27 < 16 then ((some (Arr.vst2 16 x302000 x9 x27 (wrap64 ((Arr.vrd2 16 x302000 x9 x27) - (mn (Arr.vrd2 16 x302000 x9 x27) (Arr.vrd2 16 x302000 x27 x9)))) : Vector Int 256)).bind fun y306 => (impl_OffsetPairs.l1 k x9 x23 x26 (wrap64 (x27 + 1)) (Arr.vst2 16 y306 x27 x9 (wrap64 ((Arr.vrd2 16 y306 x27 x9) - (mn (Arr.vrd2 16 x302000 x9 x27) (Arr.vrd2 16 x302000 x27 x9))))))) else (none)) else (none)) else (none)) else (none)) else (impl_OffsetPairs.l0 k (wrap64 (x23 + 1)) x302000)
end
def impl_OffsetPairs.f (k : Nat) (a0 : Int) (l1 : List (S77)) : Option ((List (S77)) × Int) := (impl_JoinDebts.f k a0 l1).bind fun bt296 => (if bt296.2 = 0 then ((impl_sumsOf.f k l1).bind fun t300 => (impl_OffsetPairs.l0 k 0 t300)) else (some (([] : List (S77)), bt296.2)))
theorem impl_OffsetPairs.mono_l : ∀ k, (∀ y0 y1, LeO (impl_OffsetPairs.l0 k y0 y1) (impl_OffsetPairs.l0 (k + 1) y0 y1)) ∧ (∀ y0 y1 y2 y3 y4, LeO (impl_OffsetPairs.l1 k y0 y1 y2 y3 y4) (impl_OffsetPairs.l1 (k + 1) y0 y1 y2 y3 y4))
  | 0 => ⟨fun _ _ r h => by simp [impl_OffsetPairs.l0] at h, fun _ _ _ _ _ r h => by simp [impl_OffsetPairs.l1] at h⟩
  | k + 1 => by
    obtain ⟨ih0, ih1⟩ := impl_OffsetPairs.mono_l k
    refine ⟨?_, ?_⟩
    · intro y0 y1
      unfold impl_OffsetPairs.l0
      repeat' first
      | (with_reducible exact ih0 _ _)
      | (with_reducible exact ih1 _ _ _ _ _)
      | (with_reducible exact impl_JoinDebts.mono _ _ _)
      | (with_reducible exact impl_sumsOf.mono _ _)
      | (with_reducible exact impl_sums_debts.mono _ _)
      | (with_reducible exact LeO.refl _)
      | (with_reducible exact LeO.none _)
      | (with_reducible refine LeO.ite ?_ ?_)
      | (with_reducible refine LeO.bind ?_ (fun _ => ?_))
      | exact ih0 _ _
      | exact ih1 _ _ _ _ _
      | exact impl_JoinDebts.mono _ _ _
      | exact impl_sumsOf.mono _ _
      | exact impl_sums_debts.mono _ _
      | exact LeO.none _
      | refine LeO.ite ?_ ?_
      | refine LeO.bind ?_ (fun _ => ?_)
    · intro y0 y1 y2 y3 y4
      unfold impl_OffsetPairs.l1
      repeat' first
      | (with_reducible exact ih0 _ _)
      | (with_reducible exact ih1 _ _ _ _ _)
      | (with_reducible exact impl_JoinDebts.mono _ _ _)
      | (with_reducible exact impl_sumsOf.mono _ _)
      | (with_reducible exact impl_sums_debts.mono _ _)
      | (with_reducible exact LeO.refl _)
      | (with_reducible exact LeO.none _)
      | (with_reducible refine LeO.ite ?_ ?_)
      | (with_reducible refine LeO.bind ?_ (fun _ => ?_))
      | exact ih0 _ _
      | exact ih1 _ _ _ _ _
      | exact impl_JoinDebts.mono _ _ _
      | exact impl_sumsOf.mono _ _
      | exact impl_sums_debts.mono _ _
      | exact LeO.none _
      | refine LeO.ite ?_ ?_
      | refine LeO.bind ?_ (fun _ => ?_)
theorem impl_OffsetPairs.mono : ∀ a0 a1 k, LeO (impl_OffsetPairs.f k a0 a1) (impl_OffsetPairs.f (k + 1) a0 a1) := by
  intro a0 a1 k; obtain ⟨ih0, ih1⟩ := impl_OffsetPairs.mono_l k; unfold impl_OffsetPairs.f
  repeat' first
      | (with_reducible exact ih0 _ _)
      | (with_reducible exact ih1 _ _ _ _ _)
      | (with_reducible exact impl_JoinDebts.mono _ _ _)
      | (with_reducible exact impl_sumsOf.mono _ _)
      | (with_reducible exact impl_sums_debts.mono _ _)
      | (with_reducible exact LeO.refl _)
      | (with_reducible exact LeO.none _)
      | (with_reducible refine LeO.ite ?_ ?_)
      | (with_reducible refine LeO.bind ?_ (fun _ => ?_))
      | exact ih0 _ _
      | exact ih1 _ _ _ _ _
      | exact impl_JoinDebts.mono _ _ _
      | exact impl_sumsOf.mono _ _
      | exact impl_sums_debts.mono _ _
      | exact LeO.none _
      | refine LeO.ite ?_ ?_
      | refine LeO.bind ?_ (fun _ => ?_)
def impl_OffsetPairs.T11 : Bool × List (List Nat × List Nat) := (true, [([], []), ([], []), ([0], [0]), ([2, 1], [1, 2]), ([3], [3]), ([], []), ([], []), ([5], [5]), ([7, 6], [6, 7]), ([8], [8]), ([4, 9], [4, 9]), ([10, 0, 1, 2, 3, 4, 5, 6, 7, 8, 9, 10], [10])])
def impl_OffsetPairs.B11 : List Nat := [0, 0, 1, 7, 15, 0, 0, 32, 224, 480, 1023, 2047]
theorem impl_OffsetPairs.tab11 : rtab .any (opsOf Tryd.f44 11) = impl_OffsetPairs.T11 := by kernel_rfl
theorem impl_OffsetPairs.bits11 : waitsOk impl_OffsetPairs.T11.2 impl_OffsetPairs.B11 = true := by kernel_rfl
def impl_OffsetPairs.T12 : Bool × List (List Nat × List Nat) := (true, [([], []), ([], []), ([0], [0]), ([2, 1], [1, 2]), ([3], [3]), ([], []), ([4, 5], [4, 5]), ([0], [0]), ([7, 1, 0, 1, 2, 3, 4, 5, 6], [1, 7]), ([8, 6, 0, 1, 2, 3, 4, 5, 6], [6, 8])])
def impl_OffsetPairs.B12 : List Nat := [0, 0, 1, 7, 15, 0, 63, 1, 255, 511]
theorem impl_OffsetPairs.tab12 : rtab .any (opsOf Tryd.f44 12) = impl_OffsetPairs.T12 := by kernel_rfl
theorem impl_OffsetPairs.bits12 : waitsOk impl_OffsetPairs.T12.2 impl_OffsetPairs.B12 = true := by kernel_rfl
def impl_OffsetPairs.T13 : Bool × List (List Nat × List Nat) := (true, [([], []), ([], []), ([0], [0]), ([2, 1], [1, 2]), ([3], [3]), ([], []), ([4, 5], [4, 5]), ([0], [0]), ([7, 1, 0, 1, 2, 3, 4, 5, 6], [1, 7]), ([8, 6, 0, 1, 2, 3, 4, 5, 6], [6, 8])])
def impl_OffsetPairs.B13 : List Nat := [0, 0, 1, 7, 15, 0, 63, 1, 255, 511]
theorem impl_OffsetPairs.tab13 : rtab .any (opsOf Tryd.f44 13) = impl_OffsetPairs.T13 := by kernel_rfl
theorem impl_OffsetPairs.bits13 : waitsOk impl_OffsetPairs.T13.2 impl_OffsetPairs.B13 = true := by kernel_rfl
set_option maxHeartbeats 8000000 in
set_option maxRecDepth 100000 in
theorem impl_OffsetPairs.calls (k : Nat) (a0 : Int) (A1 : Option Addr) (c1 : Nat) (l1 : List (S77)) (r1 : List (S77)) (r2 : Int) (w : World) (hr1 : Kd.C k77 w A1 l1.length l1) (hc1 : l1.length ≤ c1) (h : impl_OffsetPairs.f k a0 l1 = some (r1, r2)) :
    Calls Tryd.prog 44 #[.int .i64 a0, .slice A1 l1.length c1] w fun e w' => ∃ v0_ : Value, e = .returned (.tuple #[v0_, .int .i64 r2]) ∧ Kd.R k77 77 w' w.heap.size (fun _ => True) v0_ r1 ∧ Below w.heap.size w w' := by
  have hu112 := Tryd.underlying112; have HR1 := Aside0.mk hr1; have HC1 := Aside0.mk hc1; clear hr1 hc1; have HB := Aside0.mk (Below.refl w.heap.size w); have H : ((impl_JoinDebts.f k a0 l1).bind fun bt296 => (if bt296.2 = 0 then ((impl_sumsOf.f k l1).bind fun t300 => (impl_OffsetPairs.l0 k 0 t300)) else (some (([] : List (S77)), bt296.2)))) = some (r1, r2) := h; clear h; replace H := Option.bind_eq_some_iff.mp H; obtain ⟨⟨t296, t297⟩, A30, H⟩ := H; replace H : (if t297 = 0 then ((impl_sumsOf.f k l1).bind fun t300 => (impl_OffsetPairs.l0 k 0 t300)) else (some (([] : List (S77)), t297))) = some (r1, r2) := H; have A3 := Aside0.mk A30; clear A30; by_cases c4 : t297 = 0
  ·rw [if_pos c4] at H; have c4b0 : (t297 == 0) = true := beq_iff_eq.mpr c4; have c4b1 : (t297 != 0) = false := bne_eq_false_iff_eq.mpr c4; clear c4; replace H := Option.bind_eq_some_iff.mp H; obtain ⟨t300, A50, H⟩ := H; replace H : (impl_OffsetPairs.l0 k 0 t300) = some (r1, r2) := H; have A5 := Aside0.mk A50; clear A50; have H' := Aside0.mk H; clear H; go_enter Tryd.func44, Tryd.ntmps44; go_wp2_with (first | ((with_reducible refine gate_callee (f := 42) rfl ?_); refine goesL_ (some 15) rfl rfl Tryd.func42 z4_ rfl #[.int .i64 a0, .slice A1 l1.length c1] rfl z1_ ?_; (with_reducible refine (impl_JoinDebts.calls k a0 _ _ l1 t296 t297 _ ?side1 ?side2 A3.out).mono ?_); (case side1 => repeat (first | exact HR1.out | (with_reducible refine Kd.C_alloc ?_ _) | (with_reducible refine Kd.C_drewN ?_ _) | (with_reducible refine Kd.C_drew ?_))); (case side2 => exact HC1.out); rintro e w7 ⟨v298, rfl, ho0, hb⟩; refine ⟨_, rfl, ?_⟩; have n0_ := Aside0.mk (Kd.R_lower ho0 (below_size z0_)); have n1_ := Aside0.mk (below_step z0_ hb); clear HB; have HO299 := n0_; have HB := n1_; clear n0_ n1_; (try clear hb); (try clear hb2); (try clear hk); (try clear hi); (try clear ho0)) | ((with_reducible refine gate_callee (f := 91) rfl ?_); refine goesL_ (some 22) rfl rfl Tryd.func91 z4_ rfl #[.slice A1 l1.length c1] rfl z1_ ?_; (with_reducible refine (impl_sumsOf.calls k _ _ l1 t300 _ ?side1 ?side2 A5.out).mono ?_); (case side1 => repeat (first | exact (Kd.C_below HR1.out HB.out) | (with_reducible refine Kd.C_alloc ?_ _) | (with_reducible refine Kd.C_drewN ?_ _) | (with_reducible refine Kd.C_drew ?_))); (case side2 => exact HC1.out); rintro e w8 ⟨rfl, hb⟩; refine ⟨_, rfl, ?_⟩; have n0_ := Aside0.mk (Kd.R_below z70_ hb); have n1_ := Aside0.mk (below_step z0_ hb); clear HO299; clear HB; have HO299 := n0_; have HB := n1_; clear n0_ n1_; (try clear hb); (try clear hb2); (try clear hk); (try clear hi)) | ((with_reducible refine gate_dst (N := 8) rfl ?_); refine box_event ?hg (N := 8) ?hd (cs := (⟨Arr.arL .i64 (Vector.replicate 256 0 : Vector Int 256)⟩ : Array Value)) (t := 112) ?hr ?_; (case hd => rfl); (case hg => rfl); (case hr => first | (go_simp; done) | (go_simp; rfl)); intro gb301 hg w9 hbox hb; have n0_ := Aside0.mk (Kd.R_below z70_ hb); have n1_ := Aside0.mk (below_step z0_ hb); have n2_ := Aside0.mk (hbox); have n3_ := Aside0.mk ((by rw [hg]; exact (below_size z0_) : w.heap.size ≤ gb301)); have n4_ := Aside0.mk ((by rw [hg]; exact (below_size z0_) : w.heap.size ≤ gb301)); clear HO299; clear HB; have HO299 := n0_; have HB := n1_; have BK301 := n2_; have GW301 := n3_; have GE301 := n4_; clear n0_ n1_ n2_ n3_ n4_; clear hb hbox hg) | ((with_reducible refine gate_store (t := 112) (p := 8) rfl ?_); refine Arr.storeA ?hg (T := 112) (p := 8) (v := ?vo_w10) ?ho ?hn (g := gb301) (off := 0) ?hx (m := (Arr.arL .i64 t300)) ?hy (t := 112) (pre := []) (old := (Arr.arL .i64 (Vector.replicate 256 0 : Vector Int 256))) (show w9.heap[gb301]? = some (.cells (⟨Arr.arL .i64 (Vector.replicate 256 0 : Vector Int 256)⟩ : Array Value) 112 (0, 0)) from z26_) rfl z68_ (n := 256) z4_ z68_ (Arr.ones_0 ) ?_; (case ho => rfl); (case hg => rfl); (case hn => rfl); (case hx => first | (go_simp; done) | rfl | (go_simp; rfl)); (case hy => first | (go_simp; done) | rfl | (go_simp; rfl)); intro w10 hbx hg hbe; replace hbx : w10.heap[gb301]? = some (.cells (⟨Arr.arL .i64 t300⟩ : Array Value) 112 (0, 0)) := hbx; have n0_ := Aside0.mk (Kd.R_grown1 z70_ rfl hg (Kd.R_ne HO299.out BK301.out (by decide))); have n1_ := Aside0.mk (hbx); have n2_ := Aside0.mk (hbe _ _ z24_ GE301.out); clear HO299; clear BK301; clear HB; have HO299 := n0_; have BK301 := n1_; have HB := n2_; clear n0_ n1_ n2_; (try clear hbx hg hbe))); go_loopg [23] k (fun kq v23 w' => ∃ (x23_1 : Int) (x302000_1 : Vector Int 256), v23 = .int .i64 x23_1 ∧ Aside0 (impl_OffsetPairs.l0 kq x23_1 x302000_1 = some (r1, r2)) ∧ Aside0 (kq ≤ k) ∧ Aside0 (w'.heap[gb301]? = some (.cells (⟨Arr.arL .i64 x302000_1⟩ : Array Value) 112 (0, 0))) ∧ Aside0 (Below w.heap.size w w'))
   case atStart => exact ⟨(0), (t300), z5_, H', ⟨Nat.le_refl _⟩, ⟨z26_⟩, ⟨z24_⟩⟩
   case round =>
     clear H'; (try clear c1); (try clear p2); (try clear c4); (try clear c4b0); (try clear c4b1); (try clear c9); obtain ⟨x23_1, x302000_1, rfl, HA, HK1, BK301, HB⟩ := hrel
     cases gk with
     | zero => exact absurd HA.out (by simp [impl_OffsetPairs.l0])
     | succ k1 =>
       have H := HA.out; clear HA; simp only [impl_OffsetPairs.l0] at H; by_cases c11 : x23_1 < 16
       ·rw [if_pos c11] at H; have c11b0 : decide (x23_1 < 16) = true := decide_eq_true c11; clear c11; have H' := Aside0.mk H; clear H; go_wp2; go_loopg [27] k1 (fun kq v27 w' => ∃ (x27_2 : Int) (x302000_2 : Vector Int 256), v27 = .int .i64 x27_2 ∧ Aside0 (impl_OffsetPairs.l1 kq x23_1 x23_1 x23_1 x27_2 x302000_2 = some (r1, r2)) ∧ Aside0 (kq ≤ k1) ∧ Aside0 (w'.heap[gb301]? = some (.cells (⟨Arr.arL .i64 x302000_2⟩ : Array Value) 112 (0, 0))) ∧ Aside0 (Below w.heap.size w w'))
        case atStart => exact ⟨(0), (x302000_1), z5_, H', ⟨Nat.le_refl _⟩, ⟨z26_⟩, ⟨z24_⟩⟩
        case round =>
          clear H'; (try clear c1); (try clear p2); (try clear c4); (try clear c4b0); (try clear c4b1); (try clear c9); (try clear c11); (try clear c11b0); (try clear p2); obtain ⟨x27_2, x302000_2, rfl, HA, HK2, BK301, HB⟩ := hrel
          cases gk with
          | zero => exact absurd HA.out (by simp [impl_OffsetPairs.l1])
          | succ k2 =>
            have H := HA.out; clear HA; simp only [impl_OffsetPairs.l1] at H; by_cases c12 : x27_2 < x23_1
            ·rw [if_pos c12] at H; have c12b0 : decide (x27_2 < x23_1) = true := decide_eq_true c12; clear c12; by_cases c13 : 0 ≤ x23_1
             ·rw [if_pos c13] at H; have c13b0 : decide (0 ≤ x23_1) = true := decide_eq_true c13; clear c13; by_cases c14 : x23_1 < 16
              ·rw [if_pos c14] at H; have c14b0 : decide (x23_1 < 16) = true := decide_eq_true c14; clear c14; by_cases c16 : 0 ≤ x27_2
               ·rw [if_pos c16] at H; have c16b0 : decide (0 ≤ x27_2) = true := decide_eq_true c16; clear c16; by_cases c17 : x27_2 < 16
                ·rw [if_pos c17] at H; have c17b0 : decide (x27_2 < 16) = true := decide_eq_true c17; clear c17; obtain ⟨ji23, hji23⟩ : ∃ j_ : Int, (mn (Arr.vrd2 16 x302000_2 x23_1 x27_2) (Arr.vrd2 16 x302000_2 x27_2 x23_1)) = j_ := ⟨_, rfl⟩; (replace H : ((some (Arr.vst2 16 x302000_2 x23_1 x27_2 (wrap64 ((Arr.vrd2 16 x302000_2 x23_1 x27_2) - (ji23))) : Vector Int 256)).bind fun y306 => (impl_OffsetPairs.l1 k2 x23_1 x23_1 x23_1 (wrap64 (x27_2 + 1)) (Arr.vst2 16 y306 x27_2 x23_1 (wrap64 ((Arr.vrd2 16 y306 x27_2 x23_1) - (ji23)))))) = some (r1, r2) := by first | (rw [hji23] at H; exact H) | (simp only [hji23] at H ⊢; exact H)); have hji23_ : (if (Arr.vrd2 16 x302000_2 x27_2 x23_1) < (Arr.vrd2 16 x302000_2 x23_1 x27_2) then (Arr.vrd2 16 x302000_2 x27_2 x23_1) else (Arr.vrd2 16 x302000_2 x23_1 x27_2)) = ji23 := hji23; obtain ⟨y306, hy306⟩ : ∃ y_ : Vector Int 256, y_ = (Arr.vst2 16 x302000_2 x23_1 x27_2 (wrap64 ((Arr.vrd2 16 x302000_2 x23_1 x27_2) - (ji23)))) := ⟨_, rfl⟩; (replace H : (impl_OffsetPairs.l1 k2 x23_1 x23_1 x23_1 (wrap64 (x27_2 + 1)) (Arr.vst2 16 y306 x27_2 x23_1 (wrap64 ((Arr.vrd2 16 y306 x27_2 x23_1) - (ji23))))) = some (r1, r2) := by first | (rw [hy306]; with_reducible exact H) | (have H2_ := (Option.bind_some _ _).symm.trans H; rw [hy306]; with_reducible exact H2_) | (have H2_ := (Option.bind_some _ _).symm.trans H; with_reducible exact H2_) | with_reducible exact H | (rw [hy306]; exact H) | exact H); have Ny306 := Aside0.mk hy306; clear hy306; obtain ⟨y307, hy307⟩ : ∃ y_ : Vector Int 256, y_ = (Arr.vst2 16 y306 x27_2 x23_1 (wrap64 ((Arr.vrd2 16 y306 x27_2 x23_1) - (ji23)))) := ⟨_, rfl⟩; (replace H : (impl_OffsetPairs.l1 k2 x23_1 x23_1 x23_1 (wrap64 (x27_2 + 1)) y307) = some (r1, r2) := by first | (rw [hy307]; with_reducible exact H) | (have H2_ := (Option.bind_some _ _).symm.trans H; rw [hy307]; with_reducible exact H2_) | (have H2_ := (Option.bind_some _ _).symm.trans H; with_reducible exact H2_) | with_reducible exact H | (rw [hy307]; exact H) | exact H); have Ny307 := Aside0.mk hy307; clear hy307; have H' := Aside0.mk H; clear H; (try go_wp2); have n0_ := Aside0.mk (blk_drew BK301.out); have n1_ := Aside0.mk (below_drew1 HB.out); clear BK301; clear HB; have BK301 := n0_; have HB := n1_; clear n0_ n1_; have p15 : 0 ≤ (x23_1 : Int) := of_decide_eq_true z2_; have q15 : (x23_1 : Int) < 16 := of_decide_eq_true z2_; replace p15 := eq_true p15; replace q15 := eq_true q15; have p18 : 0 ≤ (x27_2 : Int) := of_decide_eq_true z2_; have q18 : (x27_2 : Int) < 16 := of_decide_eq_true z2_; replace p18 := eq_true p18; replace q18 := eq_true q18; have p20 : 0 ≤ (x27_2 : Int) := of_decide_eq_true z2_; have q20 : (x27_2 : Int) < 16 := of_decide_eq_true z2_; replace p20 := eq_true p20; replace q20 := eq_true q20; have p21 : 0 ≤ (x23_1 : Int) := of_decide_eq_true z2_; have q21 : (x23_1 : Int) < 16 := of_decide_eq_true z2_; replace p21 := eq_true p21; replace q21 := eq_true q21; refine start_ (n := 12) (S := fun w' => w'.cell? ⟨gb301, x23_1.toNat * 16 + x27_2.toNat, none⟩ = some (.int .i64 (Arr.vrd2 16 x302000_2 x23_1 x27_2)) ∧ w'.cell? ⟨gb301, x27_2.toNat * 16 + x23_1.toNat, none⟩ = some (.int .i64 (Arr.vrd2 16 x302000_2 x27_2 x23_1))) (ds := []) #[false, false, false, false, false, false, false, false, false, false, false, false] z4_ rfl rfl ⟨(Arr.cellN (off := 0) (l := (Arr.arL .i64 x302000_2)) (BK301.out) rfl (x23_1.toNat * 16 + x27_2.toNat) (x23_1.toNat * 16 + x27_2.toNat) (by omega) z64_), (Arr.cellN (off := 0) (l := (Arr.arL .i64 x302000_2)) (BK301.out) rfl (x27_2.toNat * 16 + x23_1.toNat) (x27_2.toNat * 16 + x23_1.toNat) (by omega) z63_)⟩ (fun hHeld => ?_); refine with_tabW impl_OffsetPairs.tab11 impl_OffsetPairs.bits11 (fun HT_ HW_ => ?_); generalize wr.drew = w36 at BK301 HB hHeld ⊢; refine pure_ (i := 0) (N := some 30) (v := ?_) (a' := ?_) #[true, false, false, false, false, false, false, false, false, false, false, false] rfl rfl (any_of HT_.out z4_) (fun _ _ _ h => h) (Or.inl ⟨by rfl, ?_⟩) ?_ ?_; rotate_left
                 ·intro w'; go_simp; with_reducible rfl
                 rotate_left
                 ·simp only [Act.put, List.setIfInBounds_toArray, List.set_cons_zero, List.set_cons_succ, i64_w, i32_w]; rfl
                 refine pure_ (i := 1) (N := some 31) (v := ?_) (a' := ?_) #[true, true, false, false, false, false, false, false, false, false, false, false] rfl rfl (any_of HT_.out z4_) (fun _ _ _ h => h) (Or.inl ⟨by rfl, ?_⟩) ?_ ?_; rotate_left
                 ·intro w'; go_simp; with_reducible rfl
                 rotate_left
                 ·simp only [Act.put, List.setIfInBounds_toArray, List.set_cons_zero, List.set_cons_succ, i64_w, i32_w]; rfl
                 refine pure_ (i := 2) (N := some 32) (v := ?_) (a' := ?_) #[true, true, true, false, false, false, false, false, false, false, false, false] rfl rfl (any_of HT_.out z4_) (fun _ _ _ h => h) (Or.inl ⟨by rfl, ?_⟩) ?_ ?_; rotate_left
                 ·intro w'; go_simp; with_reducible rfl
                 rotate_left
                 ·simp only [Act.put, List.setIfInBounds_toArray, List.set_cons_zero, List.set_cons_succ, i64_w, i32_w]; rfl
                 refine pure_ (i := 3) (N := some 33) (v := ?_) (a' := ?_) #[true, true, true, true, false, false, false, false, false, false, false, false] rfl rfl (any_of HT_.out z4_) (fun _ _ _ h => h) (Or.inl ⟨by rfl, ?_⟩) ?_ ?_; rotate_left
                 ·intro w'; go_simp; with_reducible rfl
                 rotate_left
                 ·simp only [Act.put, List.setIfInBounds_toArray, List.set_cons_zero, List.set_cons_succ, i64_w, i32_w]; rfl
                 refine pure_ (i := 5) (N := some 35) (v := ?_) (a' := ?_) #[true, true, true, true, false, true, false, false, false, false, false, false] rfl rfl (any_of HT_.out z4_) (fun _ _ _ h => h) (Or.inl ⟨by rfl, ?_⟩) ?_ ?_; rotate_left
                 ·intro w'; go_simp; with_reducible rfl
                 rotate_left
                 ·simp only [Act.put, List.setIfInBounds_toArray, List.set_cons_zero, List.set_cons_succ, i64_w, i32_w]; rfl
                 refine pure_ (i := 6) (N := some 36) (v := ?_) (a' := ?_) #[true, true, true, true, false, true, true, false, false, false, false, false] rfl rfl (any_of HT_.out z4_) (fun _ _ _ h => h) (Or.inl ⟨by rfl, ?_⟩) ?_ ?_; rotate_left
                 ·intro w'; go_simp; with_reducible rfl
                 rotate_left
                 ·simp only [Act.put, List.setIfInBounds_toArray, List.set_cons_zero, List.set_cons_succ, i64_w, i32_w]; rfl
                 refine pure_ (i := 7) (N := some 37) (v := ?_) (a' := ?_) #[true, true, true, true, false, true, true, true, false, false, false, false] rfl rfl (any_of HT_.out z4_) (fun _ _ _ h => h) (Or.inl ⟨by rfl, ?_⟩) ?_ ?_; rotate_left
                 ·intro w'; go_simp; with_reducible rfl
                 rotate_left
                 ·simp only [Act.put, List.setIfInBounds_toArray, List.set_cons_zero, List.set_cons_succ, i64_w, i32_w]; rfl
                 refine pure_ (i := 8) (N := some 38) (v := ?_) (a' := ?_) #[true, true, true, true, false, true, true, true, true, false, false, false] rfl rfl (any_of HT_.out z4_) (fun _ _ _ h => h) (Or.inl ⟨by rfl, ?_⟩) ?_ ?_; rotate_left
                 ·intro w'; go_simp; with_reducible rfl
                 rotate_left
                 ·simp only [Act.put, List.setIfInBounds_toArray, List.set_cons_zero, List.set_cons_succ, i64_w, i32_w]; rfl
                 refine take_ (i := 4) (N := some 34) (v := ?_) (a' := ?_) #[true, true, true, true, true, true, true, true, true, false, false, false] rfl rfl (take_ofW HT_.out HW_.out z4_) (fun _ _ _ h => h) (Or.inl ⟨by rfl, ?_⟩) hHeld ?_ ?_; rotate_left
                 ·rintro w' ⟨s0, s1⟩; go_simp; with_reducible rfl
                 rotate_left
                 ·simp only [Act.put, List.setIfInBounds_toArray, List.set_cons_zero, List.set_cons_succ, i64_w, i32_w]; rfl
                 refine take_ (i := 9) (N := some 39) (v := ?_) (a' := ?_) #[true, true, true, true, true, true, true, true, true, true, false, false] rfl rfl (take_ofW HT_.out HW_.out z4_) (fun _ _ _ h => h) (Or.inl ⟨by rfl, ?_⟩) hHeld ?_ ?_; rotate_left
                 ·rintro w' ⟨s0, s1⟩; go_simp; with_reducible rfl
                 rotate_left
                 ·simp only [Act.put, List.setIfInBounds_toArray, List.set_cons_zero, List.set_cons_succ, i64_w, i32_w]; rfl
                 refine pure_ (i := 10) (N := some 40) (v := ?_) (a' := ?_) #[true, true, true, true, true, true, true, true, true, true, true, false] rfl rfl (any_of HT_.out z4_) (fun _ _ _ h => h) (Or.inl ⟨by rfl, ?_⟩) ?_ ?_; rotate_left
                 ·intro w'; go_simp; with_reducible rfl
                 rotate_left
                 ·simp only [Act.put, List.setIfInBounds_toArray, List.set_cons_zero, List.set_cons_succ, i64_w, i32_w]; rfl
                 refine pure_ (i := 11) (N := some 11) (v := ?_) (a' := ?_) #[true, true, true, true, true, true, true, true, true, true, true, true] rfl rfl (any_of HT_.out z4_) (fun _ _ _ h => h) (Or.inl ⟨by rfl, ?_⟩) ?_ ?_; rotate_left
                 ·intro w'; go_simp; with_reducible rfl
                 rotate_left
                 ·simp only [Act.put, List.setIfInBounds_toArray, List.set_cons_zero, List.set_cons_succ, i64_w, i32_w]; rfl
                 refine done_ (done_of HT_.out z4_) ?_; (try go_wp2); have n0_ := Aside0.mk (blk_drew BK301.out); have n1_ := Aside0.mk (below_drew1 HB.out); clear BK301; clear HB; have BK301 := n0_; have HB := n1_; clear n0_ n1_; have p24 : 0 ≤ (x23_1 : Int) := of_decide_eq_true z2_; have q24 : (x23_1 : Int) < 16 := of_decide_eq_true z2_; replace p24 := eq_true p24; replace q24 := eq_true q24; have p25 : 0 ≤ (x27_2 : Int) := of_decide_eq_true z2_; have q25 : (x27_2 : Int) < 16 := of_decide_eq_true z2_; replace p25 := eq_true p25; replace q25 := eq_true q25; have p27 : 0 ≤ (x23_1 : Int) := of_decide_eq_true z2_; have q27 : (x23_1 : Int) < 16 := of_decide_eq_true z2_; replace p27 := eq_true p27; replace q27 := eq_true q27; have p28 : 0 ≤ (x27_2 : Int) := of_decide_eq_true z2_; have q28 : (x27_2 : Int) < 16 := of_decide_eq_true z2_; replace p28 := eq_true p28; replace q28 := eq_true q28; refine start_ (n := 10) (S := fun w' => w'.cell? ⟨gb301, x23_1.toNat * 16 + x27_2.toNat, none⟩ = some (.int .i64 (Arr.vrd2 16 x302000_2 x23_1 x27_2))) (ds := [9]) #[false, false, false, false, false, false, false, false, false, false] z4_ rfl rfl ((Arr.cellN (off := 0) (l := (Arr.arL .i64 x302000_2)) (BK301.out) rfl (x23_1.toNat * 16 + x27_2.toNat) (x23_1.toNat * 16 + x27_2.toNat) (by omega) (by have a0_ := of_eq_true p24; have b0_ := of_eq_true q24; have a1_ := of_eq_true p25; have b1_ := of_eq_true q25; omega))) (fun hHeld => ?_); refine with_tabW impl_OffsetPairs.tab12 impl_OffsetPairs.bits12 (fun HT_ HW_ => ?_); generalize w36.drew = w37 at BK301 HB hHeld ⊢; refine pure_ (i := 0) (N := some 41) (v := ?_) (a' := ?_) #[true, false, false, false, false, false, false, false, false, false] rfl rfl (any_of HT_.out z4_) (fun _ _ _ h => h) (Or.inl ⟨by rfl, ?_⟩) ?_ ?_; rotate_left
                 ·intro w'; go_simp; with_reducible rfl
                 rotate_left
                 ·simp only [Act.put, List.setIfInBounds_toArray, List.set_cons_zero, List.set_cons_succ, i64_w, i32_w]; rfl
                 refine pure_ (i := 1) (N := some 42) (v := ?_) (a' := ?_) #[true, true, false, false, false, false, false, false, false, false] rfl rfl (any_of HT_.out z4_) (fun _ _ _ h => h) (Or.inl ⟨by rfl, ?_⟩) ?_ ?_; rotate_left
                 ·intro w'; go_simp; with_reducible rfl
                 rotate_left
                 ·simp only [Act.put, List.setIfInBounds_toArray, List.set_cons_zero, List.set_cons_succ, i64_w, i32_w]; rfl
                 refine pure_ (i := 2) (N := some 43) (v := ?_) (a' := ?_) #[true, true, true, false, false, false, false, false, false, false] rfl rfl (any_of HT_.out z4_) (fun _ _ _ h => h) (Or.inl ⟨by rfl, ?_⟩) ?_ ?_; rotate_left
                 ·intro w'; go_simp; with_reducible rfl
                 rotate_left
                 ·simp only [Act.put, List.setIfInBounds_toArray, List.set_cons_zero, List.set_cons_succ, i64_w, i32_w]; rfl
                 refine pure_ (i := 3) (N := some 44) (v := ?_) (a' := ?_) #[true, true, true, true, false, false, false, false, false, false] rfl rfl (any_of HT_.out z4_) (fun _ _ _ h => h) (Or.inl ⟨by rfl, ?_⟩) ?_ ?_; rotate_left
                 ·intro w'; go_simp; with_reducible rfl
                 rotate_left
                 ·simp only [Act.put, List.setIfInBounds_toArray, List.set_cons_zero, List.set_cons_succ, i64_w, i32_w]; rfl
                 refine pure_ (i := 5) (N := some 46) (v := ?_) (a' := ?_) #[true, true, true, true, false, true, false, false, false, false] rfl rfl (any_of HT_.out z4_) (fun _ _ _ h => h) (Or.inl ⟨by rfl, ?_⟩) ?_ ?_; rotate_left
                 ·intro w'; go_simp; with_reducible rfl
                 rotate_left
                 ·simp only [Act.put, List.setIfInBounds_toArray, List.set_cons_zero, List.set_cons_succ, i64_w, i32_w]; rfl
                 refine pure_ (i := 7) (N := some 48) (v := ?_) (a' := ?_) #[true, true, true, true, false, true, false, true, false, false] rfl rfl (any_of HT_.out z4_) (fun _ _ _ h => h) (Or.inl ⟨by rfl, ?_⟩) ?_ ?_; rotate_left
                 ·intro w'; go_simp; with_reducible rfl
                 rotate_left
                 ·simp only [Act.put, List.setIfInBounds_toArray, List.set_cons_zero, List.set_cons_succ, i64_w, i32_w]; rfl
                 refine take_ (i := 4) (N := some 45) (v := ?_) (a' := ?_) #[true, true, true, true, true, true, false, true, false, false] rfl rfl (take_ofW HT_.out HW_.out z4_) (fun _ _ _ h => h) (Or.inl ⟨by rfl, ?_⟩) hHeld ?_ ?_; rotate_left
                 ·intro w' s0; go_simp; with_reducible rfl
                 rotate_left
                 ·simp only [Act.put, List.setIfInBounds_toArray, List.set_cons_zero, List.set_cons_succ, i64_w, i32_w]; rfl
                 refine pure_ (i := 6) (N := some 47) (v := ?_) (a' := ?_) #[true, true, true, true, true, true, true, true, false, false] rfl rfl (any_of HT_.out z4_) (fun _ _ _ h => h) (Or.inl ⟨by rfl, ?_⟩) ?_ ?_; rotate_left
                 ·intro w'; go_simp; with_reducible rfl
                 rotate_left
                 ·simp only [Act.put, List.setIfInBounds_toArray, List.set_cons_zero, List.set_cons_succ, i64_w, i32_w]; rfl
                 refine pure_ (i := 8) (N := some 49) (v := ?_) (a' := ?_) #[true, true, true, true, true, true, true, true, true, false] rfl rfl (any_of HT_.out z4_) (fun _ _ _ h => h) (Or.inl ⟨by rfl, ?_⟩) ?_ ?_; rotate_left
                 ·intro w'; go_simp; with_reducible rfl
                 rotate_left
                 ·simp only [Act.put, List.setIfInBounds_toArray, List.set_cons_zero, List.set_cons_succ, i64_w, i32_w]; rfl
                 refine last_ (i := 9) (N := none) #[true, true, true, true, true, true, true, true, true, true] rfl rfl (one_of HT_.out z4_) (by decide) (fun K hK => ?_); have hx29 : w37.cell? ⟨gb301, x23_1.toNat * 16 + x27_2.toNat, none⟩ = some (.int .i64 (Arr.vrd2 16 x302000_2 x23_1 x27_2)) := Arr.cellN (off := 0) (l := (Arr.arL .i64 x302000_2)) (show w37.heap[gb301]? = some (.cells (⟨Arr.arL .i64 x302000_2⟩ : Array Value) 112 (0, 0)) from z26_) rfl (x23_1.toNat * 16 + x27_2.toNat) (x23_1.toNat * 16 + x27_2.toNat) (by omega) (by have a0_ := of_eq_true p27; have b0_ := of_eq_true q27; have a1_ := of_eq_true p28; have b1_ := of_eq_true q28; omega); have hf29 := blk_frozen (show w37.heap[gb301]? = some (.cells (⟨Arr.arL .i64 x302000_2⟩ : Array Value) 112 (0, 0)) from z26_) (x23_1.toNat * 16 + x27_2.toNat); refine skip_ (w1 := w37.setCell ⟨gb301, x23_1.toNat * 16 + x27_2.toNat, none⟩ (.int .i64 (wrap64 ((Arr.vrd2 16 x302000_2 x23_1 x27_2) - (ji23))))) (by rfl) rfl ?_ ?_
                 ·first | (go_simp; done) | (go_simp; rfl)
                 refine hK.out _ _ ?_; clear hK K; refine done_ (done_of HT_.out z4_) ?_; obtain ⟨w38, hw_, hbx, hg, hbe⟩ := Arr.stored_at (g := gb301) (off := 0) (m := x23_1.toNat * 16 + x27_2.toNat) (n := x23_1.toNat * 16 + x27_2.toNat) (k := .i64) (y := (wrap64 ((Arr.vrd2 16 x302000_2 x23_1 x27_2) - (ji23)))) (x := x302000_2) (t := 112) (pre := []) (show w37.heap[gb301]? = some (.cells (⟨Arr.arL .i64 x302000_2⟩ : Array Value) 112 (0, 0)) from z26_) rfl (by omega); rw [hw_]; clear hw_; replace hbx : w38.heap[gb301]? = some (.cells (⟨Arr.arL .i64 y306⟩ : Array Value) 112 (0, 0)) := (by rw [Ny306.out]; exact hbx); have n0_ := Aside0.mk (hbx); have n1_ := Aside0.mk (hbe _ _ z24_ GE301.out); clear BK301; clear HB; have BK301 := n0_; have HB := n1_; clear n0_ n1_; (try clear hbx hg hbe); (try go_wp2); have n0_ := Aside0.mk (blk_drew BK301.out); have n1_ := Aside0.mk (below_drew1 HB.out); clear BK301; clear HB; have BK301 := n0_; have HB := n1_; clear n0_ n1_; have p30 : 0 ≤ (x27_2 : Int) := of_decide_eq_true z2_; have q30 : (x27_2 : Int) < 16 := of_decide_eq_true z2_; replace p30 := eq_true p30; replace q30 := eq_true q30; have p31 : 0 ≤ (x23_1 : Int) := of_decide_eq_true z2_; have q31 : (x23_1 : Int) < 16 := of_decide_eq_true z2_; replace p31 := eq_true p31; replace q31 := eq_true q31; have p33 : 0 ≤ (x27_2 : Int) := of_decide_eq_true z2_; have q33 : (x27_2 : Int) < 16 := of_decide_eq_true z2_; replace p33 := eq_true p33; replace q33 := eq_true q33; have p34 : 0 ≤ (x23_1 : Int) := of_decide_eq_true z2_; have q34 : (x23_1 : Int) < 16 := of_decide_eq_true z2_; replace p34 := eq_true p34; replace q34 := eq_true q34; refine start_ (n := 10) (S := fun w' => w'.cell? ⟨gb301, x27_2.toNat * 16 + x23_1.toNat, none⟩ = some (.int .i64 (Arr.vrd2 16 y306 x27_2 x23_1))) (ds := [9]) #[false, false, false, false, false, false, false, false, false, false] z4_ rfl rfl ((Arr.cellN (off := 0) (l := (Arr.arL .i64 y306)) (BK301.out) rfl (x27_2.toNat * 16 + x23_1.toNat) (x27_2.toNat * 16 + x23_1.toNat) (by omega) (by have a0_ := of_eq_true p30; have b0_ := of_eq_true q30; have a1_ := of_eq_true p31; have b1_ := of_eq_true q31; omega))) (fun hHeld => ?_); refine with_tabW impl_OffsetPairs.tab13 impl_OffsetPairs.bits13 (fun HT_ HW_ => ?_); generalize w38.drew = w39 at BK301 HB hHeld ⊢; refine pure_ (i := 0) (N := some 50) (v := ?_) (a' := ?_) #[true, false, false, false, false, false, false, false, false, false] rfl rfl (any_of HT_.out z4_) (fun _ _ _ h => h) (Or.inl ⟨by rfl, ?_⟩) ?_ ?_; rotate_left
                 ·intro w'; go_simp; with_reducible rfl
                 rotate_left
                 ·simp only [Act.put, List.setIfInBounds_toArray, List.set_cons_zero, List.set_cons_succ, i64_w, i32_w]; rfl
                 refine pure_ (i := 1) (N := some 51) (v := ?_) (a' := ?_) #[true, true, false, false, false, false, false, false, false, false] rfl rfl (any_of HT_.out z4_) (fun _ _ _ h => h) (Or.inl ⟨by rfl, ?_⟩) ?_ ?_; rotate_left
                 ·intro w'; go_simp; with_reducible rfl
                 rotate_left
                 ·simp only [Act.put, List.setIfInBounds_toArray, List.set_cons_zero, List.set_cons_succ, i64_w, i32_w]; rfl
                 refine pure_ (i := 2) (N := some 52) (v := ?_) (a' := ?_) #[true, true, true, false, false, false, false, false, false, false] rfl rfl (any_of HT_.out z4_) (fun _ _ _ h => h) (Or.inl ⟨by rfl, ?_⟩) ?_ ?_; rotate_left
                 ·intro w'; go_simp; with_reducible rfl
                 rotate_left
                 ·simp only [Act.put, List.setIfInBounds_toArray, List.set_cons_zero, List.set_cons_succ, i64_w, i32_w]; rfl
                 refine pure_ (i := 3) (N := some 53) (v := ?_) (a' := ?_) #[true, true, true, true, false, false, false, false, false, false] rfl rfl (any_of HT_.out z4_) (fun _ _ _ h => h) (Or.inl ⟨by rfl, ?_⟩) ?_ ?_; rotate_left
                 ·intro w'; go_simp; with_reducible rfl
                 rotate_left
                 ·simp only [Act.put, List.setIfInBounds_toArray, List.set_cons_zero, List.set_cons_succ, i64_w, i32_w]; rfl
                 refine pure_ (i := 5) (N := some 55) (v := ?_) (a' := ?_) #[true, true, true, true, false, true, false, false, false, false] rfl rfl (any_of HT_.out z4_) (fun _ _ _ h => h) (Or.inl ⟨by rfl, ?_⟩) ?_ ?_; rotate_left
                 ·intro w'; go_simp; with_reducible rfl
                 rotate_left
                 ·simp only [Act.put, List.setIfInBounds_toArray, List.set_cons_zero, List.set_cons_succ, i64_w, i32_w]; rfl
                 refine pure_ (i := 7) (N := some 57) (v := ?_) (a' := ?_) #[true, true, true, true, false, true, false, true, false, false] rfl rfl (any_of HT_.out z4_) (fun _ _ _ h => h) (Or.inl ⟨by rfl, ?_⟩) ?_ ?_; rotate_left
                 ·intro w'; go_simp; with_reducible rfl
                 rotate_left
                 ·simp only [Act.put, List.setIfInBounds_toArray, List.set_cons_zero, List.set_cons_succ, i64_w, i32_w]; rfl
                 refine take_ (i := 4) (N := some 54) (v := ?_) (a' := ?_) #[true, true, true, true, true, true, false, true, false, false] rfl rfl (take_ofW HT_.out HW_.out z4_) (fun _ _ _ h => h) (Or.inl ⟨by rfl, ?_⟩) hHeld ?_ ?_; rotate_left
                 ·intro w' s0; go_simp; with_reducible rfl
                 rotate_left
                 ·simp only [Act.put, List.setIfInBounds_toArray, List.set_cons_zero, List.set_cons_succ, i64_w, i32_w]; rfl
                 refine pure_ (i := 6) (N := some 56) (v := ?_) (a' := ?_) #[true, true, true, true, true, true, true, true, false, false] rfl rfl (any_of HT_.out z4_) (fun _ _ _ h => h) (Or.inl ⟨by rfl, ?_⟩) ?_ ?_; rotate_left
                 ·intro w'; go_simp; with_reducible rfl
                 rotate_left
                 ·simp only [Act.put, List.setIfInBounds_toArray, List.set_cons_zero, List.set_cons_succ, i64_w, i32_w]; rfl
                 refine pure_ (i := 8) (N := some 58) (v := ?_) (a' := ?_) #[true, true, true, true, true, true, true, true, true, false] rfl rfl (any_of HT_.out z4_) (fun _ _ _ h => h) (Or.inl ⟨by rfl, ?_⟩) ?_ ?_; rotate_left
                 ·intro w'; go_simp; with_reducible rfl
                 rotate_left
                 ·simp only [Act.put, List.setIfInBounds_toArray, List.set_cons_zero, List.set_cons_succ, i64_w, i32_w]; rfl
                 refine last_ (i := 9) (N := none) #[true, true, true, true, true, true, true, true, true, true] rfl rfl (one_of HT_.out z4_) (by decide) (fun K hK => ?_); have hx35 : w39.cell? ⟨gb301, x27_2.toNat * 16 + x23_1.toNat, none⟩ = some (.int .i64 (Arr.vrd2 16 y306 x27_2 x23_1)) := Arr.cellN (off := 0) (l := (Arr.arL .i64 y306)) (show w39.heap[gb301]? = some (.cells (⟨Arr.arL .i64 y306⟩ : Array Value) 112 (0, 0)) from z26_) rfl (x27_2.toNat * 16 + x23_1.toNat) (x27_2.toNat * 16 + x23_1.toNat) (by omega) (by have a0_ := of_eq_true p33; have b0_ := of_eq_true q33; have a1_ := of_eq_true p34; have b1_ := of_eq_true q34; omega); have hf35 := blk_frozen (show w39.heap[gb301]? = some (.cells (⟨Arr.arL .i64 y306⟩ : Array Value) 112 (0, 0)) from z26_) (x27_2.toNat * 16 + x23_1.toNat); refine skip_ (w1 := w39.setCell ⟨gb301, x27_2.toNat * 16 + x23_1.toNat, none⟩ (.int .i64 (wrap64 ((Arr.vrd2 16 y306 x27_2 x23_1) - (ji23))))) (by rfl) rfl ?_ ?_
                 ·first | (go_simp; done) | (go_simp; rfl)
                 refine hK.out _ _ ?_; clear hK K; refine done_ (done_of HT_.out z4_) ?_; obtain ⟨w40, hw_, hbx, hg, hbe⟩ := Arr.stored_at (g := gb301) (off := 0) (m := x27_2.toNat * 16 + x23_1.toNat) (n := x27_2.toNat * 16 + x23_1.toNat) (k := .i64) (y := (wrap64 ((Arr.vrd2 16 y306 x27_2 x23_1) - (ji23)))) (x := y306) (t := 112) (pre := []) (show w39.heap[gb301]? = some (.cells (⟨Arr.arL .i64 y306⟩ : Array Value) 112 (0, 0)) from z26_) rfl (by omega); rw [hw_]; clear hw_; replace hbx : w40.heap[gb301]? = some (.cells (⟨Arr.arL .i64 y307⟩ : Array Value) 112 (0, 0)) := (by rw [Ny307.out]; exact hbx); have n0_ := Aside0.mk (hbx); have n1_ := Aside0.mk (hbe _ _ z24_ GE301.out); clear BK301; clear HB; have BK301 := n0_; have HB := n1_; clear n0_ n1_; (try clear hbx hg hbe); (try go_wp2); go_roundg k2
                 case measure => have := HK1.out; have := HK2.out; omega
                 case rel => exact ⟨(wrap64 (x27_2 + 1)), (y307), z5_, H', ⟨z57_⟩, ⟨z26_⟩, ⟨z24_⟩⟩
                ·rw [if_neg c17] at H; exact absurd H (by simp)
               ·rw [if_neg c16] at H; exact absurd H (by simp)
              ·rw [if_neg c14] at H; exact absurd H (by simp)
             ·rw [if_neg c13] at H; exact absurd H (by simp)
            ·rw [if_neg c12] at H; have c12b0 : decide (x27_2 < x23_1) = false := decide_eq_false c12; clear c12; have H' := Aside0.mk H; clear H; go_wp2; go_roundg k2
             case measure => have := HK1.out; have := HK2.out; omega
             case rel => exact ⟨(wrap64 (x23_1 + 1)), (x302000_2), z5_, H', ⟨z57_⟩, ⟨z26_⟩, ⟨z24_⟩⟩
       ·rw [if_neg c11] at H; have c11b0 : decide (x23_1 < 16) = false := decide_eq_false c11; clear c11; replace H := Option.bind_eq_some_iff.mp H; obtain ⟨⟨t302, t305⟩, A420, H⟩ := H; replace H : (some (t302, t305)) = some (r1, r2) := H; have A42 := Aside0.mk A420; clear A420; simp only [Option.some.injEq, Prod.mk.injEq] at H; obtain ⟨rfl, rfl⟩ := H; go_wp2_with (first | ((with_reducible refine Arr.gate_load (t := 112) (p := 8) rfl ?_); (try (refine gate_guard (by rfl) ?_; dsimp only)); refine Arr.loadA ?hg (T := 112) (p := 8) ?ho (g := gb301) (off := 0) ?hx (t := 112) (l := (Arr.arL .i64 x302000_1)) (m := (Arr.arL .i64 x302000_1)) (fr := (0, 0)) (show wr.heap[gb301]? = some (.cells (⟨Arr.arL .i64 x302000_1⟩ : Array Value) 112 (0, 0)) from z26_) rfl Tryd.underlying112 rfl (n := 256) z4_ z68_ ?_; (case hg => rfl); (case ho => rfl); (case hx => first | (go_simp; done) | rfl | (go_simp; rfl))) | ((with_reducible refine gate_callee (f := 92) rfl ?_); refine goesL_ (some 62) rfl rfl Tryd.func92 z4_ rfl #[.agg (⟨Arr.arL .i64 x302000_1⟩ : Array Value)] rfl z1_ ?_; (with_reducible refine (impl_sums_debts.calls k1 x302000_1 t302 t305 _ A42.out).mono ?_); rintro e w43 ⟨v303, rfl, ho0, hb⟩; refine ⟨_, rfl, ?_⟩; have n0_ := Aside0.mk (Kd.R_lower ho0 (below_size z24_)); have n1_ := Aside0.mk (blk_below (g := gb301) (o := .cells (⟨Arr.arL .i64 x302000_1⟩ : Array Value) 112 (0, 0)) z26_ hb); have n2_ := Aside0.mk (below_step z24_ hb); clear BK301; clear HB; have HO304 := n0_; have BK301 := n1_; have HB := n2_; clear n0_ n1_ n2_; (try clear hb); (try clear hb2); (try clear hk); (try clear hi); (try clear ho0))); go_ret2; exact ⟨_, z3_, by (with_reducible repeat (first | apply Kd.R_alloc | apply Kd.R_drewN | apply Kd.R_drew)); exact HO304.out, z24_⟩
  ·rw [if_neg c4] at H; have c4b0 : (t297 == 0) = false := beq_eq_false_iff_ne.mpr c4; have c4b1 : (t297 != 0) = true := bne_iff_ne.mpr c4; simp only [Option.some.injEq, Prod.mk.injEq] at H; obtain ⟨rfl, rfl⟩ := H; go_enter Tryd.func44, Tryd.ntmps44; go_wp2_with (first | ((with_reducible refine gate_callee (f := 42) rfl ?_); refine goesL_ (some 15) rfl rfl Tryd.func42 z4_ rfl #[.int .i64 a0, .slice A1 l1.length c1] rfl z1_ ?_; (with_reducible refine (impl_JoinDebts.calls k a0 _ _ l1 t296 t297 _ ?side1 ?side2 A3.out).mono ?_); (case side1 => repeat (first | exact HR1.out | (with_reducible refine Kd.C_alloc ?_ _) | (with_reducible refine Kd.C_drewN ?_ _) | (with_reducible refine Kd.C_drew ?_))); (case side2 => exact HC1.out); rintro e w44 ⟨v298, rfl, ho0, hb⟩; refine ⟨_, rfl, ?_⟩; have n0_ := Aside0.mk (Kd.R_lower ho0 (below_size z0_)); have n1_ := Aside0.mk (below_step z0_ hb); clear HB; have HO299 := n0_; have HB := n1_; clear n0_ n1_; (try clear hb); (try clear hb2); (try clear hk); (try clear hi); (try clear ho0))); go_ret2; exact ⟨_, z3_, z23_, z0_⟩

/-! ### spec_l00Min: function 95 -/
def spec_l00Min.f (a0 : Int) (a1 : Int) : Option (Int) := if a0 < a1 then (some a0) else (some a1)
set_option maxHeartbeats 8000000 in
set_option maxRecDepth 100000 in
theorem spec_l00Min.calls (a0 : Int) (a1 : Int) (r : Int) (w : World) (h : spec_l00Min.f a0 a1 = some r) :
    Calls Tryd.prog 95 #[.int .i64 a0, .int .i64 a1] w fun e w' => e = .returned (.int .i64 r) ∧ Below w.heap.size w w' := by
  have HB := Aside0.mk (Below.refl w.heap.size w); have H : (if a0 < a1 then (some a0) else (some a1)) = some r := h; clear h; by_cases c3 : a0 < a1
  ·rw [if_pos c3] at H; have c3b0 : decide (a0 < a1) = true := decide_eq_true c3; clear c3; obtain rfl := Option.some.inj H; go_enter Tryd.func95, Tryd.ntmps95; go_wp2; go_ret; exact ⟨z3_, z0_⟩
  ·rw [if_neg c3] at H; have c3b0 : decide (a0 < a1) = false := decide_eq_false c3; clear c3; obtain rfl := Option.some.inj H; go_enter Tryd.func95, Tryd.ntmps95; go_wp2; go_ret; exact ⟨z3_, z0_⟩

end Go.Proofs.YtfjmljgbdejghaaDoor.MNets
