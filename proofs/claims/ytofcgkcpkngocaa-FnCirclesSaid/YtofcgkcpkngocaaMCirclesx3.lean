-- by a program of this session, for this claim
import Derived.Test.YtofcgkcpkngocaaMCirclesx0
import Derived.Test.YtofcgkcpkngocaaMCirclesx2
namespace Go.Proofs.Ytofcgkcpkngocaa.MCircles
open Go.RowKit Go.Proofs.YtofcgkcpkngocaaW.PrintWords Go.Proofs.YtofcgkcpkngocaaW.PrintLast Go.Proofs.YtofcgkcpkngocaaW.PrintMore
attribute [local go_sem] max2_int min2_int max_two min_two max_three min_three max_four min_four   -- for this text's walks alone
set_option linter.unusedVariables false
set_option linter.unusedSimpArgs false

/-! ### impl_OwedBetween: function 18 -/
def impl_OwedBetween.f (k : Nat) (a0 : Int) (l1 : List (S65)) (a2 : Int) (a3 : Int) : Option (Int × Int) := (impl_debtsCode.f k a0 l1 (([a2, a3] : List Int))).bind fun t114 => (if t114 = 0 then ((impl_sumsOf.f k l1).bind fun t115 => (if 0 ≤ a2 then (if a2 < 16 then (if 0 ≤ a3 then (if a3 < 16 then (some (Arr.vrd (Arr.vrow 16 t115 a2) a3, 0)) else (none)) else (none)) else (none)) else (none))) else (some (0, t114)))
theorem impl_OwedBetween.mono : ∀ a0 a1 a2 a3 k, LeO (impl_OwedBetween.f k a0 a1 a2 a3) (impl_OwedBetween.f (k + 1) a0 a1 a2 a3) := by
  intro a0 a1 a2 a3 k; unfold impl_OwedBetween.f
  repeat' first
      | (with_reducible exact impl_debtsCode.mono _ _ _ _)
      | (with_reducible exact impl_sumsOf.mono _ _)
      | (with_reducible exact LeO.refl _)
      | (with_reducible exact LeO.none _)
      | (with_reducible refine LeO.ite ?_ ?_)
      | (with_reducible refine LeO.bind ?_ (fun _ => ?_))
      | exact impl_debtsCode.mono _ _ _ _
      | exact impl_sumsOf.mono _ _
      | exact LeO.none _
      | refine LeO.ite ?_ ?_
      | refine LeO.bind ?_ (fun _ => ?_)
set_option maxHeartbeats 8000000 in
set_option maxRecDepth 100000 in
theorem impl_OwedBetween.calls (k : Nat) (a0 : Int) (A1 : Option Addr) (c1 : Nat) (l1 : List (S65)) (a2 : Int) (a3 : Int) (r1 : Int) (r2 : Int) (w : World) (hr1 : Kd.C k65 w A1 l1.length l1) (hc1 : l1.length ≤ c1) (h : impl_OwedBetween.f k a0 l1 a2 a3 = some (r1, r2)) :
    Calls Try.prog 18 #[.int .i64 a0, .slice A1 l1.length c1, .int .i64 a2, .int .i64 a3] w fun e w' => e = .returned (.tuple #[.int .i64 r1, .int .i64 r2]) ∧ Below w.heap.size w w' := by
  have HR1 := A_ hr1; have HC1 := A_ hc1; clear hr1 hc1; have HB := A_ (Below.refl w.heap.size w); have H : ((impl_debtsCode.f k a0 l1 (([a2, a3] : List Int))).bind fun t114 => (if t114 = 0 then ((impl_sumsOf.f k l1).bind fun t115 => (if 0 ≤ a2 then (if a2 < 16 then (if 0 ≤ a3 then (if a3 < 16 then (some (Arr.vrd (Arr.vrow 16 t115 a2) a3, 0)) else (none)) else (none)) else (none)) else (none))) else (some (0, t114)))) = some (r1, r2) := h; clear h; obtain ⟨y111, hy111⟩ : ∃ y_ : List Int, y_ = (([a2, a3] : List Int)) := ⟨_, rfl⟩; (replace H : ((impl_debtsCode.f k a0 l1 y111).bind fun t114 => (if t114 = 0 then ((impl_sumsOf.f k l1).bind fun t115 => (if 0 ≤ a2 then (if a2 < 16 then (if 0 ≤ a3 then (if a3 < 16 then (some (Arr.vrd (Arr.vrow 16 t115 a2) a3, 0)) else (none)) else (none)) else (none)) else (none))) else (some (0, t114)))) = some (r1, r2) := by first | (rw [hy111]; with_reducible exact H) | (have H2_ := (Option.bind_some _ _).symm.trans H; rw [hy111]; with_reducible exact H2_) | (have H2_ := (Option.bind_some _ _).symm.trans H; with_reducible exact H2_) | with_reducible exact H | (rw [hy111]; exact H) | exact H); have Ny111 := A_ hy111; clear hy111; replace H := Option.bind_eq_some_iff.mp H; obtain ⟨t114, A50, H⟩ := H; replace H : (if t114 = 0 then ((impl_sumsOf.f k l1).bind fun t115 => (if 0 ≤ a2 then (if a2 < 16 then (if 0 ≤ a3 then (if a3 < 16 then (some (Arr.vrd (Arr.vrow 16 t115 a2) a3, 0)) else (none)) else (none)) else (none)) else (none))) else (some (0, t114))) = some (r1, r2) := H; have A5 := A_ A50; clear A50; by_cases c6 : t114 = 0
  · rw [if_pos c6] at H; have c6b0 : (t114 == 0) = true := beq_iff_eq.mpr c6; have c6b1 : (t114 != 0) = false := bne_eq_false_iff_eq.mpr c6; clear c6; replace H := Option.bind_eq_some_iff.mp H; obtain ⟨t115, A70, H⟩ := H; replace H : (if 0 ≤ a2 then (if a2 < 16 then (if 0 ≤ a3 then (if a3 < 16 then (some (Arr.vrd (Arr.vrow 16 t115 a2) a3, 0)) else (none)) else (none)) else (none)) else (none)) = some (r1, r2) := H; have A7 := A_ A70; clear A70; by_cases c8 : 0 ≤ a2
    · rw [if_pos c8] at H; have c8b0 : decide (0 ≤ a2) = true := decide_eq_true c8; clear c8; by_cases c9 : a2 < 16
      · rw [if_pos c9] at H; have c9b0 : decide (a2 < 16) = true := decide_eq_true c9; clear c9; by_cases c11 : 0 ≤ a3
        · rw [if_pos c11] at H; have c11b0 : decide (0 ≤ a3) = true := decide_eq_true c11; clear c11; by_cases c12 : a3 < 16
          · rw [if_pos c12] at H; have c12b0 : decide (a3 < 16) = true := decide_eq_true c12; clear c12; simp only [Option.some.injEq, Prod.mk.injEq] at H; obtain ⟨rfl, rfl⟩ := H; go_enter Try.func18, Try.ntmps18; go_wp2_with (first | ((with_reducible refine gate_dst (N := 15) rfl ?_); refine Kd.R_lit (Kd.int .i64) _ 2 ?hg (N := 15) ?hd (xs := ([a2, a3] : List Int)) (inner := [.int .i64 a2, .int .i64 a3]) (ok := fun _ => True) (okp := fun _ => True) ?hr ?hp (fun _ hk => hk) trivial (Below.refl _ _) (Nat.le_refl _) (by simp) ?_; (case hd => rfl); (case hg => rfl); (case hr => first | (go_simp; done) | (go_simp; rfl)); (case hp => exact (Reps.one (show Kd.M (Kd.int .i64) _ _ _ a2 [.int .i64 a2] from rfl) (Reps.one (show Kd.M (Kd.int .i64) _ _ _ a3 [.int .i64 a3] from rfl) (Reps.none _ _)))); intro v112 w14 ho15 hb hg_ hnew_; clear hg_ hnew_; (first | rw [← Ny111.out] at ho15 | (simp only [Int.reduceToNat] at ho15; rw [← Ny111.out] at ho15)); have n0_ := A_ (Kd.R_lower ho15 (below_size z0_)); have n1_ := A_ (below_step z0_ hb); clear HB; have HO113 := n0_; have HB := n1_; clear n0_ n1_; clear hb ho15; obtain ⟨Ao16, co16, eo16⟩ := Kd.R_slice HO113.out; subst eo16) | ((with_reducible refine gate_callee (f := 56) rfl ?_); refine goesL_ (some 16) rfl rfl Try.func56 z13_ rfl #[.int .i64 a0, .slice A1 l1.length c1, .slice Ao16 y111.length co16] rfl z2_ ?_; (with_reducible refine (impl_debtsCode.calls k a0 _ _ l1 _ _ y111 t114 _ ?side1 ?side2 ?side3 ?side4 A5.out).mono ?_); (case side1 => repeat (first | exact (Kd.C_below HR1.out HB.out) | (with_reducible refine Kd.C_alloc ?_ _) | (with_reducible refine Kd.C_drewN ?_ _) | (with_reducible refine Kd.C_drew ?_))); (case side2 => exact HC1.out); (case side3 => repeat (first | exact (Kd.R_reads' HO113.out).2.2 | (with_reducible refine Kd.C_alloc ?_ _) | (with_reducible refine Kd.C_drewN ?_ _) | (with_reducible refine Kd.C_drew ?_))); (case side4 => exact (Kd.R_reads' HO113.out).2.1); rintro e w17 ⟨rfl, hb⟩; refine ⟨_, rfl, ?_⟩; have n0_ := A_ (Kd.R_below z100_ hb); have n1_ := A_ (below_step z0_ hb); clear HO113; clear HB; have HO113 := n0_; have HB := n1_; clear n0_ n1_; (try clear hb); (try clear hb2); (try clear hk); (try clear hi)) | ((with_reducible refine gate_callee (f := 57) rfl ?_); refine goesL_ (some 21) rfl rfl Try.func57 z13_ rfl #[.slice A1 l1.length c1] rfl z2_ ?_; (with_reducible refine (impl_sumsOf.calls k _ _ l1 t115 _ ?side1 ?side2 A7.out).mono ?_); (case side1 => repeat (first | exact (Kd.C_below HR1.out HB.out) | (with_reducible refine Kd.C_alloc ?_ _) | (with_reducible refine Kd.C_drewN ?_ _) | (with_reducible refine Kd.C_drew ?_))); (case side2 => exact HC1.out); rintro e w18 ⟨rfl, hb⟩; refine ⟨_, rfl, ?_⟩; have n0_ := A_ (Kd.R_below z100_ hb); have n1_ := A_ (below_step z0_ hb); clear HO113; clear HB; have HO113 := n0_; have HB := n1_; clear n0_ n1_; (try clear hb); (try clear hb2); (try clear hk); (try clear hi); have hx10 := fun W_ => Arr.index_row (m := 16) (k := .i64) (P := Try.prog) (w := W_) Try.underlying70 Try.underlying61 z13_ z13_ t115 a2 .i64 (of_decide_eq_true z3_) (of_decide_eq_true z3_); have p10 : 0 ≤ (a2 : Int) := of_decide_eq_true z3_; have q10 : (a2 : Int) < 16 := of_decide_eq_true z3_; replace p10 := eq_true p10; replace q10 := eq_true q10; have hx13 := fun W_ => Arr.index_arr (P := Try.prog) (w := W_) Try.underlying61 Try.underlying2 z13_ z13_ (Arr.vrow 16 t115 a2) a3 .i64 (of_decide_eq_true z3_) (of_decide_eq_true z3_); have p13 : 0 ≤ (a3 : Int) := of_decide_eq_true z3_; have q13 : (a3 : Int) < 16 := of_decide_eq_true z3_; replace p13 := eq_true p13; replace q13 := eq_true q13)); go_ret2; exact ⟨z10_, z0_⟩
          · rw [if_neg c12] at H; exact absurd H (by simp)
        · rw [if_neg c11] at H; exact absurd H (by simp)
      · rw [if_neg c9] at H; exact absurd H (by simp)
    · rw [if_neg c8] at H; exact absurd H (by simp)
  · rw [if_neg c6] at H; have c6b0 : (t114 == 0) = false := beq_eq_false_iff_ne.mpr c6; have c6b1 : (t114 != 0) = true := bne_iff_ne.mpr c6; simp only [Option.some.injEq, Prod.mk.injEq] at H; obtain ⟨rfl, rfl⟩ := H; go_enter Try.func18, Try.ntmps18; go_wp2_with (first | ((with_reducible refine gate_dst (N := 15) rfl ?_); refine Kd.R_lit (Kd.int .i64) _ 2 ?hg (N := 15) ?hd (xs := ([a2, a3] : List Int)) (inner := [.int .i64 a2, .int .i64 a3]) (ok := fun _ => True) (okp := fun _ => True) ?hr ?hp (fun _ hk => hk) trivial (Below.refl _ _) (Nat.le_refl _) (by simp) ?_; (case hd => rfl); (case hg => rfl); (case hr => first | (go_simp; done) | (go_simp; rfl)); (case hp => exact (Reps.one (show Kd.M (Kd.int .i64) _ _ _ a2 [.int .i64 a2] from rfl) (Reps.one (show Kd.M (Kd.int .i64) _ _ _ a3 [.int .i64 a3] from rfl) (Reps.none _ _)))); intro v112 w19 ho20 hb hg_ hnew_; clear hg_ hnew_; (first | rw [← Ny111.out] at ho20 | (simp only [Int.reduceToNat] at ho20; rw [← Ny111.out] at ho20)); have n0_ := A_ (Kd.R_lower ho20 (below_size z0_)); have n1_ := A_ (below_step z0_ hb); clear HB; have HO113 := n0_; have HB := n1_; clear n0_ n1_; clear hb ho20; obtain ⟨Ao21, co21, eo21⟩ := Kd.R_slice HO113.out; subst eo21) | ((with_reducible refine gate_callee (f := 56) rfl ?_); refine goesL_ (some 16) rfl rfl Try.func56 z13_ rfl #[.int .i64 a0, .slice A1 l1.length c1, .slice Ao21 y111.length co21] rfl z2_ ?_; (with_reducible refine (impl_debtsCode.calls k a0 _ _ l1 _ _ y111 t114 _ ?side1 ?side2 ?side3 ?side4 A5.out).mono ?_); (case side1 => repeat (first | exact (Kd.C_below HR1.out HB.out) | (with_reducible refine Kd.C_alloc ?_ _) | (with_reducible refine Kd.C_drewN ?_ _) | (with_reducible refine Kd.C_drew ?_))); (case side2 => exact HC1.out); (case side3 => repeat (first | exact (Kd.R_reads' HO113.out).2.2 | (with_reducible refine Kd.C_alloc ?_ _) | (with_reducible refine Kd.C_drewN ?_ _) | (with_reducible refine Kd.C_drew ?_))); (case side4 => exact (Kd.R_reads' HO113.out).2.1); rintro e w22 ⟨rfl, hb⟩; refine ⟨_, rfl, ?_⟩; have n0_ := A_ (Kd.R_below z100_ hb); have n1_ := A_ (below_step z0_ hb); clear HO113; clear HB; have HO113 := n0_; have HB := n1_; clear n0_ n1_; (try clear hb); (try clear hb2); (try clear hk); (try clear hi))); go_ret2; exact ⟨z10_, z0_⟩

/-- A state of type 92 at block g of W; what its slices lead to came in by w0. -/
def IsS92 (w0 W : World) (g : Nat) (f0 : Vector Int 256) : Prop := W.heap[g]? = some (.cells (⟨Arr.arL .i64 f0⟩ : Array Value) 92 (0, 0)) ∧ w0.heap.size ≤ g
theorem IsS92.grown {w0 W : World} {g : Nat} {f0 : Vector Int 256} {W1 : World} {row : Option Nat} (h : IsS92 w0 W g f0) (hw : W.grownBy W1 row) (hne : some g ≠ row) : IsS92 w0 W1 g f0 := by
  obtain ⟨hb, hg⟩ := h; exact ⟨blk_grown hb hw hne, hg⟩
theorem IsS92.own_neN {w0 W : World} {g : Nat} {f0 : Vector Int 256} {α : Type} {d : Kd α} {e : Nat} {base : Nat} {ok : Nat → Prop} {v : Value} {xs : List α} (h : IsS92 w0 W g f0) (ho : Kd.N d e W base ok v xs) (ht : e ≠ 92) : some g ≠ v.ownBlock := by
  obtain ⟨hb, hg⟩ := h; exact Kd.N_ne ho hb ht
theorem IsS92.fresh {w0 W : World} {g : Nat} {f0 : Vector Int 256} (h : IsS92 w0 W g f0) : ∀ k, W.heap.size ≤ k → k ≠ g := by
  obtain ⟨hb, hg⟩ := h; exact Kd.freshB hb
theorem IsS92.kept {w0 W : World} {g : Nat} {f0 : Vector Int 256} {W1 : World} {S : Nat → Prop} (h : IsS92 w0 W g f0) (hk : Kept W W1 S) (hne : ¬ S g) : IsS92 w0 W1 g f0 := by
  obtain ⟨hb, hg⟩ := h; exact ⟨blk_kept hb hk hne, hg⟩
theorem IsS92.below {w0 W : World} {g : Nat} {f0 : Vector Int 256} {W1 : World} (h : IsS92 w0 W g f0) (hw : Below W.heap.size W W1) : IsS92 w0 W1 g f0 := h.grown (grown_of_below hw none) (by simp)
theorem IsS92.alloc {w0 W : World} {g : Nat} {f0 : Vector Int 256} (h : IsS92 w0 W g f0) (o : Obj) : IsS92 w0 (W.alloc o) g f0 := h.below (below_alloc (Below.refl _ _) o)
theorem IsS92.drewN {w0 W : World} {g : Nat} {f0 : Vector Int 256} (h : IsS92 w0 W g f0) (m : Nat) : IsS92 w0 (W.drewN m) g f0 := h
theorem IsS92.drew {w0 W : World} {g : Nat} {f0 : Vector Int 256} (h : IsS92 w0 W g f0) : IsS92 w0 W.drew g f0 := h
theorem IsS92.at_ {w0 W : World} {g : Nat} {f0 : Vector Int 256} {w' : World} {m : Nat} (hq : W.drewN m = w') (h : IsS92 w0 W g f0) : IsS92 w0 w' g f0 := by subst hq; exact IsS92.drewN h m
theorem IsS92.apart {w0 W : World} {g : Nat} {f0 : Vector Int 256} {α : Type} {d : Kd α} {e : Nat} {base : Nat} {ok : Nat → Prop} {v : Value} {xs : List α} (h : IsS92 w0 W g f0) (ho : d.R e W base ok v xs) (ht : ∀ q, q ∈ e :: d.E → q ≠ 92) : d.R e W base (fun k => ok k ∧ k ≠ g) v xs := by
  obtain ⟨hb, hg⟩ := h; exact Kd.R_types ho hb ht
theorem IsS92.own_ne {w0 W : World} {g : Nat} {f0 : Vector Int 256} {α : Type} {d : Kd α} {e : Nat} {base : Nat} {ok : Nat → Prop} {v : Value} {xs : List α} (h : IsS92 w0 W g f0) (ho : d.R e W base ok v xs) (ht : e ≠ 92) : some g ≠ v.ownBlock := by
  obtain ⟨hb, hg⟩ := h; exact Kd.R_ne ho hb ht
theorem IsS92.apartQ {w0 W : World} {g : Nat} {f0 : Vector Int 256} {α : Type} {d : Kd α} {e : Nat} {base : Nat} {ok : Nat → Prop} {v : Value} {xs : List α} (h : IsS92 w0 W g f0) (ho : d.Q e W base ok v xs) (ht : ∀ q, q ∈ e :: d.E → q ≠ 92) : d.Q e W base (fun k => ok k ∧ k ≠ g) v xs := by
  obtain ⟨hb, hg⟩ := h; exact Kd.Q_types ho hb ht
theorem IsS92.own_neQ {w0 W : World} {g : Nat} {f0 : Vector Int 256} {α : Type} {d : Kd α} {e : Nat} {base : Nat} {ok : Nat → Prop} {v : Value} {xs : List α} (h : IsS92 w0 W g f0) (ho : d.Q e W base ok v xs) (ht : e ≠ 92) : some g ≠ v.ownBlock := by
  obtain ⟨hb, hg⟩ := h; exact Kd.Q_ne ho hb ht
theorem IsS92.apartS {w0 W : World} {g : Nat} {f0 : Vector Int 256} {α : Type} {d : Kd α} {e : Nat} {base : Nat} {ok : Nat → Prop} {v : Value} {xs : List α} (h : IsS92 w0 W g f0) (ho : d.S e W base ok v xs) (ht : ∀ q, q ∈ e :: d.E → q ≠ 92) : d.S e W base (fun k => ok k ∧ k ≠ g) v xs := by
  obtain ⟨hb, hg⟩ := h; exact Kd.S_types ho hb ht
theorem IsS92.own_neS {w0 W : World} {g : Nat} {f0 : Vector Int 256} {α : Type} {d : Kd α} {e : Nat} {base : Nat} {ok : Nat → Prop} {v : Value} {xs : List α} (h : IsS92 w0 W g f0) (ho : d.S e W base ok v xs) (ht : e ≠ 92) : some g ≠ v.ownBlock := by
  obtain ⟨hb, hg⟩ := h; exact Kd.S_ne ho hb ht
theorem IsS92.lt {w0 W : World} {g : Nat} {f0 : Vector Int 256} (h : IsS92 w0 W g f0) : g < W.heap.size := by
  obtain ⟨hb, hg⟩ := h; exact blk_lt hb
theorem IsS92.ge {w0 W : World} {g : Nat} {f0 : Vector Int 256} (h : IsS92 w0 W g f0) : w0.heap.size ≤ g := by
  obtain ⟨hb, hg⟩ := h; exact hg
theorem IsS92.ne_blk {w0 W : World} {g : Nat} {f0 : Vector Int 256} {a : Nat} {cs : Array Value} {t : TypeId} {fr : Nat × Nat} (h : IsS92 w0 W g f0) (hb2 : W.heap[a]? = some (.cells cs t fr)) (ht : t ≠ 92) : g ≠ a := by
  obtain ⟨hb, hg⟩ := h; rintro rfl; rw [hb] at hb2; injection hb2 with hb2; injection hb2 with _ ht2; exact ht ht2.symm
theorem IsS92.far {w0 W : World} {g : Nat} {f0 : Vector Int 256} {p : Addr} (h : IsS92 w0 W g f0) (hne : g ≠ p.block) (u : Value) : IsS92 w0 (W.setCell p u) g f0 := by
  obtain ⟨hb, hg⟩ := h; exact ⟨blk_far hb hne u, hg⟩
theorem IsS92.new (w0 W : World) (f0 : Vector Int 256) (hB : Below w0.heap.size w0 W) : IsS92 w0 (W.alloc (.cells (⟨Arr.arL .i64 f0⟩ : Array Value) 92)) W.heap.size f0 := ⟨by simpa using heap_alloc_new W _, hB.size⟩

/-! ### spec_l02Sums: function 54 -/
def spec_l02Sums.l0 : Nat → List (S65) → Int → Vector Int 256 → Option (Vector Int 256)
  | 0, _, _, _ => none
  | k + 1, x0, x4, x117000 => if x4 < (x0.length : Int) then (if 0 ≤ x4 then (if 0 ≤ ((rd_T65 x0 x4).f0) then (if ((rd_T65 x0 x4).f0) < 16 then (if 0 ≤ ((rd_T65 x0 x4).f1) then (if ((rd_T65 x0 x4).f1) < 16 then (spec_l02Sums.l0 k x0 (wrap64 (x4 + 1)) (Arr.vst2 16 x117000 ((rd_T65 x0 x4).f0) ((rd_T65 x0 x4).f1) (wrap64 ((Arr.vrd2 16 x117000 ((rd_T65 x0 x4).f0) ((rd_T65 x0 x4).f1)) + ((rd_T65 x0 x4).f2))))) else (none)) else (none)) else (none)) else (none)) else (none)) else (some x117000)
def spec_l02Sums.f (k : Nat) (l0 : List (S65)) : Option (Vector Int 256) := spec_l02Sums.l0 k l0 0 (Vector.replicate 256 0 : Vector Int 256)
theorem spec_l02Sums.mono_l : ∀ k, (∀ y0 y1 y2, LeO (spec_l02Sums.l0 k y0 y1 y2) (spec_l02Sums.l0 (k + 1) y0 y1 y2))
  | 0 => fun _ _ _ r h => by simp [spec_l02Sums.l0] at h
  | k + 1 => by
    have ih0 := spec_l02Sums.mono_l k
    · intro y0 y1 y2
      unfold spec_l02Sums.l0
      repeat' first
      | (with_reducible exact ih0 _ _ _)
      | (with_reducible exact LeO.refl _)
      | (with_reducible exact LeO.none _)
      | (with_reducible refine LeO.ite ?_ ?_)
      | (with_reducible refine LeO.bind ?_ (fun _ => ?_))
      | exact ih0 _ _ _
      | exact LeO.none _
      | refine LeO.ite ?_ ?_
      | refine LeO.bind ?_ (fun _ => ?_)
theorem spec_l02Sums.mono : ∀ a0 k, LeO (spec_l02Sums.f k a0) (spec_l02Sums.f (k + 1) a0) := by
  intro a0 k; have ih0 := spec_l02Sums.mono_l k; unfold spec_l02Sums.f
  repeat' first
      | (with_reducible exact ih0 _ _ _)
      | (with_reducible exact LeO.refl _)
      | (with_reducible exact LeO.none _)
      | (with_reducible refine LeO.ite ?_ ?_)
      | (with_reducible refine LeO.bind ?_ (fun _ => ?_))
      | exact ih0 _ _ _
      | exact LeO.none _
      | refine LeO.ite ?_ ?_
      | refine LeO.bind ?_ (fun _ => ?_)
def spec_l02Sums.T5 : Bool × List (List Nat × List Nat) := (true, [([], []), ([], []), ([], []), ([1, 2], [1, 2]), ([3], [3]), ([4], [4]), ([], []), ([], []), ([6, 7], [6, 7]), ([8], [8]), ([9], [9]), ([0], [0]), ([11, 5], [5, 11]), ([12, 10], [10, 12]), ([13], [13]), ([], []), ([], []), ([15, 16], [15, 16]), ([17], [17]), ([18], [18]), ([14, 19], [14, 19]), ([0], [0]), ([21, 5], [5, 21]), ([22, 10, 0, 1, 2, 3, 4, 5, 6, 7, 8, 9, 10, 11, 12, 13, 14, 15, 16, 17, 18, 19, 20], [10, 22]), ([23, 20, 0, 1, 2, 3, 4, 5, 6, 7, 8, 9, 10, 11, 12, 13, 14, 15, 16, 17, 18, 19, 20], [20, 23])])
def spec_l02Sums.B5 : List Nat := [0, 0, 0, 6, 14, 30, 0, 0, 192, 448, 960, 1, 2111, 8191, 16383, 0, 0, 98304, 229376, 491520, 1048575, 1, 2097215, 8388607, 16777215]
theorem spec_l02Sums.tab5 : rtab .any (opsOf Try.f54 5) = spec_l02Sums.T5 := by kernel_rfl
theorem spec_l02Sums.bits5 : waitsOk spec_l02Sums.T5.2 spec_l02Sums.B5 = true := by kernel_rfl
set_option maxHeartbeats 8000000 in
set_option maxRecDepth 100000 in
theorem spec_l02Sums.calls (k : Nat) (A0 : Option Addr) (c0 : Nat) (l0 : List (S65)) (r : Vector Int 256) (w0 w : World) (hB : Below w0.heap.size w0 w) (hr0 : Kd.C k65 w0 A0 l0.length l0) (hc0 : l0.length ≤ c0) (h : spec_l02Sums.f k l0 = some r) :
    Calls Try.prog 54 #[.slice A0 l0.length c0] w fun e w' => ∃ g_ : Nat, e = .returned (.pointer (some ⟨g_, 0, none⟩)) ∧ IsS92 w0 w' g_ r ∧ Below w0.heap.size w0 w' ∧ Below w.heap.size w w' := by
  suffices core_ : ∀ (w : World) (hr0 : Kd.C k65 w A0 l0.length l0), Calls Try.prog 54 #[.slice A0 l0.length c0] w fun e w' => ∃ g_ : Nat, e = .returned (.pointer (some ⟨g_, 0, none⟩)) ∧ IsS92 w w' g_ r ∧ Below w.heap.size w w' by
    refine (core_ w (Kd.C_below hr0 hB)).mono ?_; rintro e w' ⟨g_, he_, hi_, hb_⟩; exact ⟨g_, he_, ⟨hi_.1, Nat.le_trans hB.size hi_.2⟩, below_step hB hb_, hb_⟩
  clear hB hr0; intro w hr0; have hB := Below.refl w.heap.size w; have hu92 := Try.underlying92; have HR0 := A_ hr0; have HC0 := A_ hc0; clear hr0 hc0; have HBW := A_ (Below.refl w.heap.size w); have HW0 := A_ hB.size; have HB := A_ hB; clear hB; have H : (spec_l02Sums.l0 k l0 0 (Vector.replicate 256 0 : Vector Int 256)) = some r := h; clear h; have H' := A_ H; clear H; go_enter Try.func54, Try.ntmps54; go_wp2_with (first | ((with_reducible refine gate_dst (N := 6) rfl ?_); refine box_event ?hg (N := 6) ?hd (cs := (⟨Arr.arL .i64 (Vector.replicate 256 0 : Vector Int 256)⟩ : Array Value)) (t := 92) ?hr ?_; (case hd => rfl); (case hg => rfl); (case hr => first | (go_simp; done) | (go_simp; rfl)); intro gb116 hg w2 hbox hb; have n0_ := A_ (below_step HB.out hb); have n1_ := A_ (below_step z0_ hb); have n2_ := A_ (hbox); have n3_ := A_ ((by rw [hg]; exact (below_size z0_) : w.heap.size ≤ gb116)); have n4_ := A_ ((Nat.le_trans HW0.out (by rw [hg]; exact (below_size z0_) : w.heap.size ≤ gb116) : w.heap.size ≤ gb116)); clear HBW; clear HB; have HBW := n0_; have HB := n1_; have BK116 := n2_; have GW116 := n3_; have GE116 := n4_; clear n0_ n1_ n2_ n3_ n4_; clear hb hbox hg)); go_loopg [4] k (fun kq v4 w' => ∃ (x4_1 : Int) (x117000_1 : Vector Int 256), v4 = .int .i64 x4_1 ∧ Aside0 (spec_l02Sums.l0 kq l0 x4_1 x117000_1 = some r) ∧ Aside0 (kq ≤ k) ∧ Aside0 (w'.heap[gb116]? = some (.cells (⟨Arr.arL .i64 x117000_1⟩ : Array Value) 92 (0, 0))) ∧ Aside0 (Below w.heap.size w w'))
  case atStart => exact ⟨(0), ((Vector.replicate 256 0 : Vector Int 256)), z11_, H', ⟨Nat.le_refl _⟩, ⟨z60_⟩, ⟨z71_⟩⟩
  case round =>
    clear H'; (try clear p2); obtain ⟨x4_1, x117000_1, rfl, HA, HK1, BK116, HB⟩ := hrel
    cases gk with
    | zero => exact absurd HA.out (by simp [spec_l02Sums.l0])
    | succ k1 =>
      have H := HA.out; clear HA; simp only [spec_l02Sums.l0] at H; by_cases c3 : x4_1 < (l0.length : Int)
      · rw [if_pos c3] at H; have c3b0 : decide (x4_1 < (l0.length : Int)) = true := decide_eq_true c3; clear c3; by_cases c4 : 0 ≤ x4_1
        · rw [if_pos c4] at H; have c4b0 : decide (0 ≤ x4_1) = true := decide_eq_true c4; clear c4; by_cases c5 : 0 ≤ ((rd_T65 l0 x4_1).f0)
          · rw [if_pos c5] at H; have c5b0 : decide (0 ≤ ((rd_T65 l0 x4_1).f0)) = true := decide_eq_true c5; clear c5; by_cases c6 : ((rd_T65 l0 x4_1).f0) < 16
            · rw [if_pos c6] at H; have c6b0 : decide (((rd_T65 l0 x4_1).f0) < 16) = true := decide_eq_true c6; clear c6; by_cases c8 : 0 ≤ ((rd_T65 l0 x4_1).f1)
              · rw [if_pos c8] at H; have c8b0 : decide (0 ≤ ((rd_T65 l0 x4_1).f1)) = true := decide_eq_true c8; clear c8; by_cases c9 : ((rd_T65 l0 x4_1).f1) < 16
                · rw [if_pos c9] at H; have c9b0 : decide (((rd_T65 l0 x4_1).f1) < 16) = true := decide_eq_true c9; clear c9; obtain ⟨y120, hy120⟩ : ∃ y_ : Vector Int 256, y_ = (Arr.vst2 16 x117000_1 ((rd_T65 l0 x4_1).f0) ((rd_T65 l0 x4_1).f1) (wrap64 ((Arr.vrd2 16 x117000_1 ((rd_T65 l0 x4_1).f0) ((rd_T65 l0 x4_1).f1)) + ((rd_T65 l0 x4_1).f2)))) := ⟨_, rfl⟩; (replace H : (spec_l02Sums.l0 k1 l0 (wrap64 (x4_1 + 1)) y120) = some r := by first | (rw [hy120]; with_reducible exact H) | (have H2_ := (Option.bind_some _ _).symm.trans H; rw [hy120]; with_reducible exact H2_) | (have H2_ := (Option.bind_some _ _).symm.trans H; with_reducible exact H2_) | with_reducible exact H | (rw [hy120]; exact H) | exact H); have Ny120 := A_ hy120; clear hy120; have H' := A_ H; clear H; (try go_wp2); have n0_ := A_ (blk_drew BK116.out); have n1_ := A_ (below_drew1 HB.out); clear BK116; clear HB; have BK116 := n0_; have HB := n1_; clear n0_ n1_; have p117 : 0 ≤ (x4_1 : Int) := of_decide_eq_true z3_; have q117 : x4_1 < (l0.length : Int) := of_decide_eq_true z3_; obtain ⟨ad117, e117, hx117_0, hx117_1, hx117_2⟩ := at_T65 HR0.out x4_1 p117 q117; have hw117_2 := hx117_2; have hw117_1 := hx117_1; have hw117_0 := hx117_0; cases e117; replace hx117_0 := pw_cell_below HB.out hx117_0; replace hx117_1 := pw_cell_below HB.out hx117_1; replace hx117_2 := pw_cell_below HB.out hx117_2; replace p117 := eq_true p117; replace q117 := eq_true q117; have p118 : 0 ≤ (x4_1 : Int) := of_decide_eq_true z3_; have q118 : x4_1 < (l0.length : Int) := of_decide_eq_true z3_; obtain ⟨ad118, e118, hx118_0, hx118_1, hx118_2⟩ := at_T65 HR0.out x4_1 p118 q118; have hw118_2 := hx118_2; have hw118_1 := hx118_1; have hw118_0 := hx118_0; obtain rfl : ad117 = ad118 := (by injection e118); replace hx118_0 := pw_cell_below HB.out hx118_0; replace hx118_1 := pw_cell_below HB.out hx118_1; replace hx118_2 := pw_cell_below HB.out hx118_2; replace p118 := eq_true p118; replace q118 := eq_true q118; have p7 : 0 ≤ (((rd_T65 l0 x4_1).f0) : Int) := of_decide_eq_true z3_; have q7 : (((rd_T65 l0 x4_1).f0) : Int) < 16 := of_decide_eq_true z3_; replace p7 := eq_true p7; replace q7 := eq_true q7; have p10 : 0 ≤ (((rd_T65 l0 x4_1).f1) : Int) := of_decide_eq_true z3_; have q10 : (((rd_T65 l0 x4_1).f1) : Int) < 16 := of_decide_eq_true z3_; replace p10 := eq_true p10; replace q10 := eq_true q10; have p119 : 0 ≤ (x4_1 : Int) := of_decide_eq_true z3_; have q119 : x4_1 < (l0.length : Int) := of_decide_eq_true z3_; obtain ⟨ad119, e119, hx119_0, hx119_1, hx119_2⟩ := at_T65 HR0.out x4_1 p119 q119; have hw119_2 := hx119_2; have hw119_1 := hx119_1; have hw119_0 := hx119_0; obtain rfl : ad117 = ad119 := (by injection e119); replace hx119_0 := pw_cell_below HB.out hx119_0; replace hx119_1 := pw_cell_below HB.out hx119_1; replace hx119_2 := pw_cell_below HB.out hx119_2; replace p119 := eq_true p119; replace q119 := eq_true q119; have p12 : 0 ≤ (((rd_T65 l0 x4_1).f0) : Int) := of_decide_eq_true z3_; have q12 : (((rd_T65 l0 x4_1).f0) : Int) < 16 := of_decide_eq_true z3_; replace p12 := eq_true p12; replace q12 := eq_true q12; have p13 : 0 ≤ (((rd_T65 l0 x4_1).f1) : Int) := of_decide_eq_true z3_; have q13 : (((rd_T65 l0 x4_1).f1) : Int) < 16 := of_decide_eq_true z3_; replace p13 := eq_true p13; replace q13 := eq_true q13; refine start_ (n := 25) (S := fun w' => w'.cell? (ad117.add ((x4_1).toNat * 3)) = some (.int .i64 ((rd_T65 l0 x4_1).f0)) ∧ w'.cell? ⟨(ad117.add ((x4_1).toNat * 3)).block, (ad117.add ((x4_1).toNat * 3)).off + 1, none⟩ = some (.int .i64 ((rd_T65 l0 x4_1).f1)) ∧ w'.cell? ⟨(ad117.add ((x4_1).toNat * 3)).block, (ad117.add ((x4_1).toNat * 3)).off + 2, none⟩ = some (.int .i64 ((rd_T65 l0 x4_1).f2)) ∧ w'.cell? (ad117.add ((x4_1).toNat * 3)) = some (.int .i64 ((rd_T65 l0 x4_1).f0)) ∧ w'.cell? ⟨(ad117.add ((x4_1).toNat * 3)).block, (ad117.add ((x4_1).toNat * 3)).off + 1, none⟩ = some (.int .i64 ((rd_T65 l0 x4_1).f1)) ∧ w'.cell? ⟨(ad117.add ((x4_1).toNat * 3)).block, (ad117.add ((x4_1).toNat * 3)).off + 2, none⟩ = some (.int .i64 ((rd_T65 l0 x4_1).f2)) ∧ w'.cell? ⟨gb116, ((rd_T65 l0 x4_1).f0).toNat * 16 + ((rd_T65 l0 x4_1).f1).toNat, none⟩ = some (.int .i64 (Arr.vrd2 16 x117000_1 ((rd_T65 l0 x4_1).f0) ((rd_T65 l0 x4_1).f1))) ∧ w'.cell? (ad117.add ((x4_1).toNat * 3)) = some (.int .i64 ((rd_T65 l0 x4_1).f0)) ∧ w'.cell? ⟨(ad117.add ((x4_1).toNat * 3)).block, (ad117.add ((x4_1).toNat * 3)).off + 1, none⟩ = some (.int .i64 ((rd_T65 l0 x4_1).f1)) ∧ w'.cell? ⟨(ad117.add ((x4_1).toNat * 3)).block, (ad117.add ((x4_1).toNat * 3)).off + 2, none⟩ = some (.int .i64 ((rd_T65 l0 x4_1).f2))) (ds := [24]) #[false, false, false, false, false, false, false, false, false, false, false, false, false, false, false, false, false, false, false, false, false, false, false, false, false] z13_ rfl rfl ⟨((HB.out.cell (bl_ _ _ hw117_0)).trans hw117_0), ((HB.out.cell (bl_ _ _ hw117_1)).trans hw117_1), ((HB.out.cell (bl_ _ _ hw117_2)).trans hw117_2), ((HB.out.cell (bl_ _ _ hw118_0)).trans hw118_0), ((HB.out.cell (bl_ _ _ hw118_1)).trans hw118_1), ((HB.out.cell (bl_ _ _ hw118_2)).trans hw118_2), (Arr.cellN (off := 0) (l := (Arr.arL .i64 x117000_1)) (BK116.out) rfl (((rd_T65 l0 x4_1).f0).toNat * 16 + ((rd_T65 l0 x4_1).f1).toNat) (((rd_T65 l0 x4_1).f0).toNat * 16 + ((rd_T65 l0 x4_1).f1).toNat) (by omega) (by have a0_ := of_eq_true p7; have b0_ := of_eq_true q7; have a1_ := of_eq_true p10; have b1_ := of_eq_true q10; omega)), ((HB.out.cell (bl_ _ _ hw119_0)).trans hw119_0), ((HB.out.cell (bl_ _ _ hw119_1)).trans hw119_1), ((HB.out.cell (bl_ _ _ hw119_2)).trans hw119_2)⟩ (fun hHeld => ?_); refine with_tabW spec_l02Sums.tab5 spec_l02Sums.bits5 (fun HT_ HW_ => ?_); generalize wr.drew = w15 at BK116 HB hx117_0 hx117_1 hx117_2 hx118_0 hx118_1 hx118_2 hx119_0 hx119_1 hx119_2 hHeld ⊢; refine pure_ (i := 0) (N := some 13) (v := ?_) (a' := ?_) #[true, false, false, false, false, false, false, false, false, false, false, false, false, false, false, false, false, false, false, false, false, false, false, false, false] rfl rfl (any_of HT_.out z13_) (fun _ _ _ h => h) (Or.inl ⟨by rfl, ?_⟩) ?_ ?_; rotate_left
                  · intro w'; go_simp; with_reducible rfl
                  rotate_left
                  · exact zp_
                  refine pure_ (i := 1) (N := some 14) (v := ?_) (a' := ?_) #[true, true, false, false, false, false, false, false, false, false, false, false, false, false, false, false, false, false, false, false, false, false, false, false, false] rfl rfl (any_of HT_.out z13_) (fun _ _ _ h => h) (Or.inl ⟨by rfl, ?_⟩) ?_ ?_; rotate_left
                  · intro w'; go_simp; with_reducible rfl
                  rotate_left
                  · exact zp_
                  refine pure_ (i := 2) (N := some 15) (v := ?_) (a' := ?_) #[true, true, true, false, false, false, false, false, false, false, false, false, false, false, false, false, false, false, false, false, false, false, false, false, false] rfl rfl (any_of HT_.out z13_) (fun _ _ _ h => h) (Or.inl ⟨by rfl, ?_⟩) ?_ ?_; rotate_left
                  · intro w'; go_simp; with_reducible rfl
                  rotate_left
                  · exact zp_
                  refine pure_ (i := 3) (N := some 16) (v := ?_) (a' := ?_) #[true, true, true, true, false, false, false, false, false, false, false, false, false, false, false, false, false, false, false, false, false, false, false, false, false] rfl rfl (any_of HT_.out z13_) (fun _ _ _ h => h) (Or.inl ⟨by rfl, ?_⟩) ?_ ?_; rotate_left
                  · intro w'; go_simp; with_reducible rfl
                  rotate_left
                  · exact zp_
                  refine pure_ (i := 4) (N := some 17) (v := ?_) (a' := ?_) #[true, true, true, true, true, false, false, false, false, false, false, false, false, false, false, false, false, false, false, false, false, false, false, false, false] rfl rfl (any_of HT_.out z13_) (fun _ _ _ h => h) (Or.inl ⟨by rfl, ?_⟩) ?_ ?_; rotate_left
                  · intro w'; go_simp; with_reducible rfl
                  rotate_left
                  · exact zp_
                  refine pure_ (i := 6) (N := some 19) (v := ?_) (a' := ?_) #[true, true, true, true, true, false, true, false, false, false, false, false, false, false, false, false, false, false, false, false, false, false, false, false, false] rfl rfl (any_of HT_.out z13_) (fun _ _ _ h => h) (Or.inl ⟨by rfl, ?_⟩) ?_ ?_; rotate_left
                  · intro w'; go_simp; with_reducible rfl
                  rotate_left
                  · exact zp_
                  refine pure_ (i := 7) (N := some 20) (v := ?_) (a' := ?_) #[true, true, true, true, true, false, true, true, false, false, false, false, false, false, false, false, false, false, false, false, false, false, false, false, false] rfl rfl (any_of HT_.out z13_) (fun _ _ _ h => h) (Or.inl ⟨by rfl, ?_⟩) ?_ ?_; rotate_left
                  · intro w'; go_simp; with_reducible rfl
                  rotate_left
                  · exact zp_
                  refine pure_ (i := 8) (N := some 21) (v := ?_) (a' := ?_) #[true, true, true, true, true, false, true, true, true, false, false, false, false, false, false, false, false, false, false, false, false, false, false, false, false] rfl rfl (any_of HT_.out z13_) (fun _ _ _ h => h) (Or.inl ⟨by rfl, ?_⟩) ?_ ?_; rotate_left
                  · intro w'; go_simp; with_reducible rfl
                  rotate_left
                  · exact zp_
                  refine pure_ (i := 9) (N := some 22) (v := ?_) (a' := ?_) #[true, true, true, true, true, false, true, true, true, true, false, false, false, false, false, false, false, false, false, false, false, false, false, false, false] rfl rfl (any_of HT_.out z13_) (fun _ _ _ h => h) (Or.inl ⟨by rfl, ?_⟩) ?_ ?_; rotate_left
                  · intro w'; go_simp; with_reducible rfl
                  rotate_left
                  · exact zp_
                  refine pure_ (i := 11) (N := some 24) (v := ?_) (a' := ?_) #[true, true, true, true, true, false, true, true, true, true, false, true, false, false, false, false, false, false, false, false, false, false, false, false, false] rfl rfl (any_of HT_.out z13_) (fun _ _ _ h => h) (Or.inl ⟨by rfl, ?_⟩) ?_ ?_; rotate_left
                  · intro w'; go_simp; with_reducible rfl
                  rotate_left
                  · exact zp_
                  refine pure_ (i := 15) (N := some 28) (v := ?_) (a' := ?_) #[true, true, true, true, true, false, true, true, true, true, false, true, false, false, false, true, false, false, false, false, false, false, false, false, false] rfl rfl (any_of HT_.out z13_) (fun _ _ _ h => h) (Or.inl ⟨by rfl, ?_⟩) ?_ ?_; rotate_left
                  · intro w'; go_simp; with_reducible rfl
                  rotate_left
                  · exact zp_
                  refine pure_ (i := 16) (N := some 29) (v := ?_) (a' := ?_) #[true, true, true, true, true, false, true, true, true, true, false, true, false, false, false, true, true, false, false, false, false, false, false, false, false] rfl rfl (any_of HT_.out z13_) (fun _ _ _ h => h) (Or.inl ⟨by rfl, ?_⟩) ?_ ?_; rotate_left
                  · intro w'; go_simp; with_reducible rfl
                  rotate_left
                  · exact zp_
                  refine pure_ (i := 17) (N := some 30) (v := ?_) (a' := ?_) #[true, true, true, true, true, false, true, true, true, true, false, true, false, false, false, true, true, true, false, false, false, false, false, false, false] rfl rfl (any_of HT_.out z13_) (fun _ _ _ h => h) (Or.inl ⟨by rfl, ?_⟩) ?_ ?_; rotate_left
                  · intro w'; go_simp; with_reducible rfl
                  rotate_left
                  · exact zp_
                  refine pure_ (i := 18) (N := some 31) (v := ?_) (a' := ?_) #[true, true, true, true, true, false, true, true, true, true, false, true, false, false, false, true, true, true, true, false, false, false, false, false, false] rfl rfl (any_of HT_.out z13_) (fun _ _ _ h => h) (Or.inl ⟨by rfl, ?_⟩) ?_ ?_; rotate_left
                  · intro w'; go_simp; with_reducible rfl
                  rotate_left
                  · exact zp_
                  refine pure_ (i := 21) (N := some 34) (v := ?_) (a' := ?_) #[true, true, true, true, true, false, true, true, true, true, false, true, false, false, false, true, true, true, true, false, false, true, false, false, false] rfl rfl (any_of HT_.out z13_) (fun _ _ _ h => h) (Or.inl ⟨by rfl, ?_⟩) ?_ ?_; rotate_left
                  · intro w'; go_simp; with_reducible rfl
                  rotate_left
                  · exact zp_
                  refine take_ (i := 5) (N := some 18) (v := ?_) (a' := ?_) #[true, true, true, true, true, true, true, true, true, true, false, true, false, false, false, true, true, true, true, false, false, true, false, false, false] rfl rfl (take_ofW HT_.out HW_.out z13_) (fun _ _ _ h => h) (Or.inl ⟨by rfl, ?_⟩) hHeld ?_ ?_; rotate_left
                  · rintro w' ⟨s0, s1, s2, s3, s4, s5, s6, s7, s8, s9⟩; go_simp; with_reducible rfl
                  rotate_left
                  · exact zp_
                  refine pure_ (i := 12) (N := some 25) (v := ?_) (a' := ?_) #[true, true, true, true, true, true, true, true, true, true, false, true, true, false, false, true, true, true, true, false, false, true, false, false, false] rfl rfl (any_of HT_.out z13_) (fun _ _ _ h => h) (Or.inl ⟨by rfl, ?_⟩) ?_ ?_; rotate_left
                  · intro w'; go_simp; with_reducible rfl
                  rotate_left
                  · exact zp_
                  refine pure_ (i := 22) (N := some 35) (v := ?_) (a' := ?_) #[true, true, true, true, true, true, true, true, true, true, false, true, true, false, false, true, true, true, true, false, false, true, true, false, false] rfl rfl (any_of HT_.out z13_) (fun _ _ _ h => h) (Or.inl ⟨by rfl, ?_⟩) ?_ ?_; rotate_left
                  · intro w'; go_simp; with_reducible rfl
                  rotate_left
                  · exact zp_
                  refine take_ (i := 10) (N := some 23) (v := ?_) (a' := ?_) #[true, true, true, true, true, true, true, true, true, true, true, true, true, false, false, true, true, true, true, false, false, true, true, false, false] rfl rfl (take_ofW HT_.out HW_.out z13_) (fun _ _ _ h => h) (Or.inl ⟨by rfl, ?_⟩) hHeld ?_ ?_; rotate_left
                  · rintro w' ⟨s0, s1, s2, s3, s4, s5, s6, s7, s8, s9⟩; go_simp; with_reducible rfl
                  rotate_left
                  · exact zp_
                  refine pure_ (i := 13) (N := some 26) (v := ?_) (a' := ?_) #[true, true, true, true, true, true, true, true, true, true, true, true, true, true, false, true, true, true, true, false, false, true, true, false, false] rfl rfl (any_of HT_.out z13_) (fun _ _ _ h => h) (Or.inl ⟨by rfl, ?_⟩) ?_ ?_; rotate_left
                  · intro w'; go_simp; with_reducible rfl
                  rotate_left
                  · exact zp_
                  refine take_ (i := 14) (N := some 27) (v := ?_) (a' := ?_) #[true, true, true, true, true, true, true, true, true, true, true, true, true, true, true, true, true, true, true, false, false, true, true, false, false] rfl rfl (take_ofW HT_.out HW_.out z13_) (fun _ _ _ h => h) (Or.inl ⟨by rfl, ?_⟩) hHeld ?_ ?_; rotate_left
                  · rintro w' ⟨s0, s1, s2, s3, s4, s5, s6, s7, s8, s9⟩; go_simp; with_reducible rfl
                  rotate_left
                  · exact zp_
                  refine take_ (i := 19) (N := some 32) (v := ?_) (a' := ?_) #[true, true, true, true, true, true, true, true, true, true, true, true, true, true, true, true, true, true, true, true, false, true, true, false, false] rfl rfl (take_ofW HT_.out HW_.out z13_) (fun _ _ _ h => h) (Or.inl ⟨by rfl, ?_⟩) hHeld ?_ ?_; rotate_left
                  · rintro w' ⟨s0, s1, s2, s3, s4, s5, s6, s7, s8, s9⟩; go_simp; with_reducible rfl
                  rotate_left
                  · exact zp_
                  refine pure_ (i := 20) (N := some 33) (v := ?_) (a' := ?_) #[true, true, true, true, true, true, true, true, true, true, true, true, true, true, true, true, true, true, true, true, true, true, true, false, false] rfl rfl (any_of HT_.out z13_) (fun _ _ _ h => h) (Or.inl ⟨by rfl, ?_⟩) ?_ ?_; rotate_left
                  · intro w'; go_simp; with_reducible rfl
                  rotate_left
                  · exact zp_
                  refine pure_ (i := 23) (N := some 36) (v := ?_) (a' := ?_) #[true, true, true, true, true, true, true, true, true, true, true, true, true, true, true, true, true, true, true, true, true, true, true, true, false] rfl rfl (any_of HT_.out z13_) (fun _ _ _ h => h) (Or.inl ⟨by rfl, ?_⟩) ?_ ?_; rotate_left
                  · intro w'; go_simp; with_reducible rfl
                  rotate_left
                  · exact zp_
                  refine last_ (i := 24) (N := none) #[true, true, true, true, true, true, true, true, true, true, true, true, true, true, true, true, true, true, true, true, true, true, true, true, true] rfl rfl (one_of HT_.out z13_) (by decide) (fun K hK => ?_); have hx14 : w15.cell? ⟨gb116, ((rd_T65 l0 x4_1).f0).toNat * 16 + ((rd_T65 l0 x4_1).f1).toNat, none⟩ = some (.int .i64 (Arr.vrd2 16 x117000_1 ((rd_T65 l0 x4_1).f0) ((rd_T65 l0 x4_1).f1))) := Arr.cellN (off := 0) (l := (Arr.arL .i64 x117000_1)) (show w15.heap[gb116]? = some (.cells (⟨Arr.arL .i64 x117000_1⟩ : Array Value) 92 (0, 0)) from z60_) rfl (((rd_T65 l0 x4_1).f0).toNat * 16 + ((rd_T65 l0 x4_1).f1).toNat) (((rd_T65 l0 x4_1).f0).toNat * 16 + ((rd_T65 l0 x4_1).f1).toNat) (by omega) (by have a0_ := of_eq_true p12; have b0_ := of_eq_true q12; have a1_ := of_eq_true p13; have b1_ := of_eq_true q13; omega); have hf14 := blk_frozen (show w15.heap[gb116]? = some (.cells (⟨Arr.arL .i64 x117000_1⟩ : Array Value) 92 (0, 0)) from z60_) (((rd_T65 l0 x4_1).f0).toNat * 16 + ((rd_T65 l0 x4_1).f1).toNat); refine skip_ (w1 := w15.setCell ⟨gb116, ((rd_T65 l0 x4_1).f0).toNat * 16 + ((rd_T65 l0 x4_1).f1).toNat, none⟩ (.int .i64 (wrap64 ((Arr.vrd2 16 x117000_1 ((rd_T65 l0 x4_1).f0) ((rd_T65 l0 x4_1).f1)) + ((rd_T65 l0 x4_1).f2))))) (by rfl) rfl ?_ ?_
                  · first | (go_simp; done) | (go_simp; rfl)
                  refine hK.out _ _ ?_; clear hK K; refine done_ (done_of HT_.out z13_) ?_; obtain ⟨w16, hw_, hbx, hg, hbe⟩ := Arr.stored_at (g := gb116) (off := 0) (m := ((rd_T65 l0 x4_1).f0).toNat * 16 + ((rd_T65 l0 x4_1).f1).toNat) (n := ((rd_T65 l0 x4_1).f0).toNat * 16 + ((rd_T65 l0 x4_1).f1).toNat) (k := .i64) (y := (wrap64 ((Arr.vrd2 16 x117000_1 ((rd_T65 l0 x4_1).f0) ((rd_T65 l0 x4_1).f1)) + ((rd_T65 l0 x4_1).f2)))) (x := x117000_1) (t := 92) (pre := []) (show w15.heap[gb116]? = some (.cells (⟨Arr.arL .i64 x117000_1⟩ : Array Value) 92 (0, 0)) from z60_) rfl (by omega); rw [hw_]; clear hw_; replace hbx : w16.heap[gb116]? = some (.cells (⟨Arr.arL .i64 y120⟩ : Array Value) 92 (0, 0)) := (by rw [Ny120.out]; exact hbx); have n0_ := A_ (hbx); have n1_ := A_ (hbe _ _ HB.out GW116.out); have n2_ := A_ (hbe _ _ z71_ GE116.out); clear BK116; clear HBW; clear HB; have BK116 := n0_; have HBW := n1_; have HB := n2_; clear n0_ n1_ n2_; (try clear hbx hg hbe); (try go_wp2); go_roundg k1
                  case measure => have := HK1.out; omega
                  case rel => exact ⟨(wrap64 (x4_1 + 1)), (y120), z11_, H', ⟨z46_⟩, ⟨z60_⟩, ⟨z71_⟩⟩
                · rw [if_neg c9] at H; exact absurd H (by simp)
              · rw [if_neg c8] at H; exact absurd H (by simp)
            · rw [if_neg c6] at H; exact absurd H (by simp)
          · rw [if_neg c5] at H; exact absurd H (by simp)
        · rw [if_neg c4] at H; exact absurd H (by simp)
      · rw [if_neg c3] at H; have c3b0 : decide (x4_1 < (l0.length : Int)) = false := decide_eq_false c3; clear c3; obtain rfl := Option.some.inj H; go_wp2; go_ret; exact ⟨_, rfl, (show IsS92 w _ gb116 x117000_1 from ⟨z60_, GE116.out⟩), z71_⟩

/-! ### spec_l00In: function 72 -/
def spec_l00In.f (a0 : Int) (a1 : Int) (a2 : Int) : Option (Bool) := if a0 ≥ a1 then (some (decide (a0 ≤ a2))) else (some false)
set_option maxHeartbeats 8000000 in
set_option maxRecDepth 100000 in
theorem spec_l00In.calls (a0 : Int) (a1 : Int) (a2 : Int) (r : Bool) (w : World) (h : spec_l00In.f a0 a1 a2 = some r) :
    Calls Try.prog 72 #[.int .i64 a0, .int .i64 a1, .int .i64 a2] w fun e w' => e = .returned (.bool r) ∧ Drawn0 w w' := by
  have H : (if a0 ≥ a1 then (some (decide (a0 ≤ a2))) else (some false)) = some r := h; clear h; by_cases c4 : a0 ≥ a1
  · rw [if_pos c4] at H; have c4b0 : decide (a1 ≤ a0) = true := decide_eq_true c4; clear c4; obtain rfl := Option.some.inj H; go_enter Try.func72, Try.ntmps72; go_wp2; go_ret; exact ⟨z11_, z21_⟩
  · rw [if_neg c4] at H; have c4b0 : decide (a1 ≤ a0) = false := decide_eq_false c4; clear c4; obtain rfl := Option.some.inj H; go_enter Try.func72, Try.ntmps72; go_wp2; go_ret; exact ⟨z11_, z21_⟩

/-! ### spec_l02Person: function 66 -/
def spec_l02Person.f (a0 : Int) (a1 : Int) : Option (Bool) := (spec_l00In.f a1 0 (wrap64 (a0 - 1))).bind fun t121 => (some t121)
set_option maxHeartbeats 8000000 in
set_option maxRecDepth 100000 in
theorem spec_l02Person.calls (a0 : Int) (a1 : Int) (r : Bool) (w : World) (h : spec_l02Person.f a0 a1 = some r) :
    Calls Try.prog 66 #[.int .i64 a0, .int .i64 a1] w fun e w' => e = .returned (.bool r) ∧ Drawn0 w w' := by
  have H : ((spec_l00In.f a1 0 (wrap64 (a0 - 1))).bind fun t121 => (some t121)) = some r := h; clear h; replace H := Option.bind_eq_some_iff.mp H; obtain ⟨t121, A30, H⟩ := H; replace H : (some t121) = some r := H; have A3 := A_ A30; clear A30; obtain rfl := Option.some.inj H; go_enter Try.func66, Try.ntmps66; go_wp2_with (first | ((with_reducible refine gate_callee (f := 72) rfl ?_); refine goesL_ (some 8) rfl rfl Try.func72 z13_ rfl #[.int .i64 a1, .int .i64 0, .int .i64 (wrap64 (a0 - 1))] rfl z2_ ?_; (with_reducible refine (spec_l00In.calls a1 0 (wrap64 (a0 - 1)) t121 _ A3.out).mono ?_); rintro e w' ⟨rfl, ⟨nd, rfl⟩⟩; refine ⟨_, rfl, ?_⟩)); go_ret; exact ⟨z11_, z21_⟩

end Go.Proofs.Ytofcgkcpkngocaa.MCircles
