-- by a program of this session, for this claim
import Derived.Test.YtofcgkcpkngocaaMPaidx0
import Derived.Test.YtofcgkcpkngocaaMPaidx2
import Derived.Test.YtofcgkcpkngocaaMPaidx3
namespace Go.Proofs.Ytofcgkcpkngocaa.MPaid
open Go.RowKit Go.Proofs.YtofcgkcpkngocaaW.PrintWords Go.Proofs.YtofcgkcpkngocaaW.PrintLast Go.Proofs.YtofcgkcpkngocaaW.PrintMore
attribute [local go_sem] max2_int min2_int max_two min_two max_three min_three max_four min_four   -- for this text's walks alone
set_option linter.unusedVariables false
set_option linter.unusedSimpArgs false

/-! ### spec_l02Two: function 53 -/
def spec_l02Two.f (k : Nat) (a0 : Int) (l1 : List (S65)) (a2 : Int) (a3 : Int) : Option (Int) := (spec_l02Ok.f k a0 l1).bind fun t112 => (if t112 = true then ((spec_l02Person.f a0 a2).bind fun t113 => (if t113 = true then ((spec_l02Person.f a0 a3).bind fun t114 => (if t114 = true then (some 0) else (some 2))) else (some 2))) else (some 1))
theorem spec_l02Two.mono : ∀ a0 a1 a2 a3 k, LeO (spec_l02Two.f k a0 a1 a2 a3) (spec_l02Two.f (k + 1) a0 a1 a2 a3) := by
  intro a0 a1 a2 a3 k; unfold spec_l02Two.f
  repeat' first
      | (with_reducible exact spec_l02Ok.mono _ _ _)
      | (with_reducible exact LeO.refl _)
      | (with_reducible exact LeO.none _)
      | (with_reducible refine LeO.ite ?_ ?_)
      | (with_reducible refine LeO.bind ?_ (fun _ => ?_))
      | exact spec_l02Ok.mono _ _ _
      | exact LeO.none _
      | refine LeO.ite ?_ ?_
      | refine LeO.bind ?_ (fun _ => ?_)
set_option maxHeartbeats 8000000 in
set_option maxRecDepth 100000 in
theorem spec_l02Two.calls (k : Nat) (a0 : Int) (A1 : Option Addr) (c1 : Nat) (l1 : List (S65)) (a2 : Int) (a3 : Int) (r : Int) (w : World) (hr1 : Kd.C k65 w A1 l1.length l1) (hc1 : l1.length ≤ c1) (h : spec_l02Two.f k a0 l1 a2 a3 = some r) :
    Calls Try.prog 53 #[.int .i64 a0, .slice A1 l1.length c1, .int .i64 a2, .int .i64 a3] w fun e w' => e = .returned (.int .i64 r) ∧ Below w.heap.size w w' := by
  have HR1 := Aside0.mk hr1; have HC1 := Aside0.mk hc1; clear hr1 hc1; have HB := Aside0.mk (Below.refl w.heap.size w); have H : ((spec_l02Ok.f k a0 l1).bind fun t112 => (if t112 = true then ((spec_l02Person.f a0 a2).bind fun t113 => (if t113 = true then ((spec_l02Person.f a0 a3).bind fun t114 => (if t114 = true then (some 0) else (some 2))) else (some 2))) else (some 1))) = some r := h; clear h; replace H := Option.bind_eq_some_iff.mp H; obtain ⟨t112, A50, H⟩ := H; replace H : (if t112 = true then ((spec_l02Person.f a0 a2).bind fun t113 => (if t113 = true then ((spec_l02Person.f a0 a3).bind fun t114 => (if t114 = true then (some 0) else (some 2))) else (some 2))) else (some 1)) = some r := H; have A5 := Aside0.mk A50; clear A50; by_cases c6 : t112 = true
  · subst c6; (have H1 : ((spec_l02Person.f a0 a2).bind fun t113 => (if t113 = true then ((spec_l02Person.f a0 a3).bind fun t114 => (if t114 = true then (some 0) else (some 2))) else (some 2))) = some r := z41_); clear H; have H := H1; clear H1; replace H := Option.bind_eq_some_iff.mp H; obtain ⟨t113, A70, H⟩ := H; replace H : (if t113 = true then ((spec_l02Person.f a0 a3).bind fun t114 => (if t114 = true then (some 0) else (some 2))) else (some 2)) = some r := H; have A7 := Aside0.mk A70; clear A70; by_cases c8 : t113 = true
    · subst c8; (have H1 : ((spec_l02Person.f a0 a3).bind fun t114 => (if t114 = true then (some 0) else (some 2))) = some r := z41_); clear H; have H := H1; clear H1; replace H := Option.bind_eq_some_iff.mp H; obtain ⟨t114, A90, H⟩ := H; replace H : (if t114 = true then (some 0) else (some 2)) = some r := H; have A9 := Aside0.mk A90; clear A90; by_cases c10 : t114 = true
      · subst c10; (have H1 : (some 0) = some r := z41_); clear H; have H := H1; clear H1; obtain rfl := Option.some.inj H; go_enter Try.func53, Try.ntmps53; go_wp2_with (first | ((with_reducible refine gate_callee (f := 59) rfl ?_); refine goesL_ (some 11) rfl rfl Try.func59 z4_ rfl #[.int .i64 a0, .slice A1 l1.length c1] rfl z2_ ?_; (with_reducible refine (spec_l02Ok.calls k a0 _ _ l1 true _ ?side1 ?side2 A5.out).mono ?_); (case side1 => repeat (first | exact HR1.out | (with_reducible refine Kd.C_alloc ?_ _) | (with_reducible refine Kd.C_drewN ?_ _) | (with_reducible refine Kd.C_drew ?_))); (case side2 => exact HC1.out); rintro e w11 ⟨rfl, hb⟩; refine ⟨_, rfl, ?_⟩; have n0_ := Aside0.mk (below_step z0_ hb); clear HB; have HB := n0_; clear n0_; (try clear hb); (try clear hb2); (try clear hk); (try clear hi)) | ((with_reducible refine gate_callee (f := 66) rfl ?_); refine goesL_ (some 15) rfl rfl Try.func66 z4_ rfl #[.int .i64 a0, .int .i64 a2] rfl z2_ ?_; (with_reducible refine (spec_l02Person.calls a0 a2 true _ A7.out).mono ?_); rintro e w' ⟨rfl, ⟨nd, rfl⟩⟩; refine ⟨_, rfl, ?_⟩) | (go_at_call 66; (with_reducible refine (spec_l02Person.calls a0 a3 true _ A9.out).mono ?_); rintro e w' ⟨rfl, ⟨nd, rfl⟩⟩)); go_ret; exact ⟨z3_, z0_⟩
      · replace c10 := Bool.eq_false_iff.mpr c10; subst c10; (have H1 : (some 2) = some r := z18_); clear H; have H := H1; clear H1; obtain rfl := Option.some.inj H; go_enter Try.func53, Try.ntmps53; go_wp2_with (first | ((with_reducible refine gate_callee (f := 59) rfl ?_); refine goesL_ (some 11) rfl rfl Try.func59 z4_ rfl #[.int .i64 a0, .slice A1 l1.length c1] rfl z2_ ?_; (with_reducible refine (spec_l02Ok.calls k a0 _ _ l1 true _ ?side1 ?side2 A5.out).mono ?_); (case side1 => repeat (first | exact HR1.out | (with_reducible refine Kd.C_alloc ?_ _) | (with_reducible refine Kd.C_drewN ?_ _) | (with_reducible refine Kd.C_drew ?_))); (case side2 => exact HC1.out); rintro e w12 ⟨rfl, hb⟩; refine ⟨_, rfl, ?_⟩; have n0_ := Aside0.mk (below_step z0_ hb); clear HB; have HB := n0_; clear n0_; (try clear hb); (try clear hb2); (try clear hk); (try clear hi)) | ((with_reducible refine gate_callee (f := 66) rfl ?_); refine goesL_ (some 15) rfl rfl Try.func66 z4_ rfl #[.int .i64 a0, .int .i64 a2] rfl z2_ ?_; (with_reducible refine (spec_l02Person.calls a0 a2 true _ A7.out).mono ?_); rintro e w' ⟨rfl, ⟨nd, rfl⟩⟩; refine ⟨_, rfl, ?_⟩) | (go_at_call 66; (with_reducible refine (spec_l02Person.calls a0 a3 false _ A9.out).mono ?_); rintro e w' ⟨rfl, ⟨nd, rfl⟩⟩)); go_ret; exact ⟨z3_, z0_⟩
    · replace c8 := Bool.eq_false_iff.mpr c8; subst c8; (have H1 : (some 2) = some r := z18_); clear H; have H := H1; clear H1; obtain rfl := Option.some.inj H; go_enter Try.func53, Try.ntmps53; go_wp2_with (first | ((with_reducible refine gate_callee (f := 59) rfl ?_); refine goesL_ (some 11) rfl rfl Try.func59 z4_ rfl #[.int .i64 a0, .slice A1 l1.length c1] rfl z2_ ?_; (with_reducible refine (spec_l02Ok.calls k a0 _ _ l1 true _ ?side1 ?side2 A5.out).mono ?_); (case side1 => repeat (first | exact HR1.out | (with_reducible refine Kd.C_alloc ?_ _) | (with_reducible refine Kd.C_drewN ?_ _) | (with_reducible refine Kd.C_drew ?_))); (case side2 => exact HC1.out); rintro e w13 ⟨rfl, hb⟩; refine ⟨_, rfl, ?_⟩; have n0_ := Aside0.mk (below_step z0_ hb); clear HB; have HB := n0_; clear n0_; (try clear hb); (try clear hb2); (try clear hk); (try clear hi)) | ((with_reducible refine gate_callee (f := 66) rfl ?_); refine goesL_ (some 15) rfl rfl Try.func66 z4_ rfl #[.int .i64 a0, .int .i64 a2] rfl z2_ ?_; (with_reducible refine (spec_l02Person.calls a0 a2 false _ A7.out).mono ?_); rintro e w' ⟨rfl, ⟨nd, rfl⟩⟩; refine ⟨_, rfl, ?_⟩)); go_ret; exact ⟨z3_, z0_⟩
  · replace c6 := Bool.eq_false_iff.mpr c6; subst c6; (have H1 : (some 1) = some r := z18_); clear H; have H := H1; clear H1; obtain rfl := Option.some.inj H; go_enter Try.func53, Try.ntmps53; go_wp2_with (first | ((with_reducible refine gate_callee (f := 59) rfl ?_); refine goesL_ (some 11) rfl rfl Try.func59 z4_ rfl #[.int .i64 a0, .slice A1 l1.length c1] rfl z2_ ?_; (with_reducible refine (spec_l02Ok.calls k a0 _ _ l1 false _ ?side1 ?side2 A5.out).mono ?_); (case side1 => repeat (first | exact HR1.out | (with_reducible refine Kd.C_alloc ?_ _) | (with_reducible refine Kd.C_drewN ?_ _) | (with_reducible refine Kd.C_drew ?_))); (case side2 => exact HC1.out); rintro e w14 ⟨rfl, hb⟩; refine ⟨_, rfl, ?_⟩; have n0_ := Aside0.mk (below_step z0_ hb); clear HB; have HB := n0_; clear n0_; (try clear hb); (try clear hb2); (try clear hk); (try clear hi))); go_ret; exact ⟨z3_, z0_⟩

/-- A state of type 92 at block g of W; what its slices lead to came in by w0. -/
def IsS92 (w0 W : World) (g : Nat) (f0 : Vector Int 256) : Prop := W.heap[g]? = some (.cells (⟨Arr.arL .i64 f0⟩ : Array Value) 92 (0, 0)) ∧ w0.heap.size ≤ g
theorem IsS92.grown {w0 W : World} {g : Nat} {f0 : Vector Int 256} {W1 : World} {row : Option Nat} (h : IsS92 w0 W g f0) (hw : W.grownBy W1 row) (hne : some g ≠ row) : IsS92 w0 W1 g f0 := by
  obtain ⟨hb, hg⟩ := h; exact ⟨blk_grown hb hw hne, hg⟩
theorem IsS92.own_neN {w0 W : World} {g : Nat} {f0 : Vector Int 256} {α : Type} {d : Kd α} {e : Nat} {base : Nat} {ok : Nat → Prop} {v : Value} {xs : List α} (h : IsS92 w0 W g f0) (ho : Kd.N d e W base ok v xs) (ht : e ≠ 92) : some g ≠ v.ownBlock := by
  obtain ⟨hb, hg⟩ := h; exact Kd.N_ne ho hb ht
theorem IsS92.fresh {w0 W : World} {g : Nat} {f0 : Vector Int 256} (h : IsS92 w0 W g f0) : ∀ k, W.heap.size ≤ k → k ≠ g := by
  obtain ⟨hb, hg⟩ := h; exact Kd.freshB hb
theorem IsS92.kept {w0 W : World} {g : Nat} {f0 : Vector Int 256} {W1 : World} {S : Nat → Prop} (h : IsS92 w0 W g f0) (hk : Kept W W1 S) (hne : ¬ S g) : IsS92 w0 W1 g f0 := by
  obtain ⟨hb, hg⟩ := h; exact ⟨blk_kept hb hk hne, hg⟩
theorem IsS92.below {w0 W : World} {g : Nat} {f0 : Vector Int 256} {W1 : World} (h : IsS92 w0 W g f0) (hw : Below W.heap.size W W1) : IsS92 w0 W1 g f0 := h.grown (grown_of_below hw none) (by simp)
theorem IsS92.alloc {w0 W : World} {g : Nat} {f0 : Vector Int 256} (h : IsS92 w0 W g f0) (o : Obj) : IsS92 w0 (W.alloc o) g f0 := h.below (below_alloc (Below.refl _ _) o)
theorem IsS92.drewN {w0 W : World} {g : Nat} {f0 : Vector Int 256} (h : IsS92 w0 W g f0) (m : Nat) : IsS92 w0 (W.drewN m) g f0 := h
theorem IsS92.drew {w0 W : World} {g : Nat} {f0 : Vector Int 256} (h : IsS92 w0 W g f0) : IsS92 w0 W.drew g f0 := h
theorem IsS92.at_ {w0 W : World} {g : Nat} {f0 : Vector Int 256} {w' : World} {m : Nat} (hq : W.drewN m = w') (h : IsS92 w0 W g f0) : IsS92 w0 w' g f0 := by subst hq; exact IsS92.drewN h m
theorem IsS92.apart {w0 W : World} {g : Nat} {f0 : Vector Int 256} {α : Type} {d : Kd α} {e : Nat} {base : Nat} {ok : Nat → Prop} {v : Value} {xs : List α} (h : IsS92 w0 W g f0) (ho : d.R e W base ok v xs) (ht : ∀ q, q ∈ e :: d.E → q ≠ 92) : d.R e W base (fun k => ok k ∧ k ≠ g) v xs := by
  obtain ⟨hb, hg⟩ := h; exact Kd.R_types ho hb ht
theorem IsS92.own_ne {w0 W : World} {g : Nat} {f0 : Vector Int 256} {α : Type} {d : Kd α} {e : Nat} {base : Nat} {ok : Nat → Prop} {v : Value} {xs : List α} (h : IsS92 w0 W g f0) (ho : d.R e W base ok v xs) (ht : e ≠ 92) : some g ≠ v.ownBlock := by
  obtain ⟨hb, hg⟩ := h; exact Kd.R_ne ho hb ht
theorem IsS92.apartQ {w0 W : World} {g : Nat} {f0 : Vector Int 256} {α : Type} {d : Kd α} {e : Nat} {base : Nat} {ok : Nat → Prop} {v : Value} {xs : List α} (h : IsS92 w0 W g f0) (ho : d.Q e W base ok v xs) (ht : ∀ q, q ∈ e :: d.E → q ≠ 92) : d.Q e W base (fun k => ok k ∧ k ≠ g) v xs := by
  obtain ⟨hb, hg⟩ := h; exact Kd.Q_types ho hb ht
theorem IsS92.own_neQ {w0 W : World} {g : Nat} {f0 : Vector Int 256} {α : Type} {d : Kd α} {e : Nat} {base : Nat} {ok : Nat → Prop} {v : Value} {xs : List α} (h : IsS92 w0 W g f0) (ho : d.Q e W base ok v xs) (ht : e ≠ 92) : some g ≠ v.ownBlock := by
  obtain ⟨hb, hg⟩ := h; exact Kd.Q_ne ho hb ht
theorem IsS92.apartS {w0 W : World} {g : Nat} {f0 : Vector Int 256} {α : Type} {d : Kd α} {e : Nat} {base : Nat} {ok : Nat → Prop} {v : Value} {xs : List α} (h : IsS92 w0 W g f0) (ho : d.S e W base ok v xs) (ht : ∀ q, q ∈ e :: d.E → q ≠ 92) : d.S e W base (fun k => ok k ∧ k ≠ g) v xs := by
  obtain ⟨hb, hg⟩ := h; exact Kd.S_types ho hb ht
theorem IsS92.own_neS {w0 W : World} {g : Nat} {f0 : Vector Int 256} {α : Type} {d : Kd α} {e : Nat} {base : Nat} {ok : Nat → Prop} {v : Value} {xs : List α} (h : IsS92 w0 W g f0) (ho : d.S e W base ok v xs) (ht : e ≠ 92) : some g ≠ v.ownBlock := by
  obtain ⟨hb, hg⟩ := h; exact Kd.S_ne ho hb ht
theorem IsS92.lt {w0 W : World} {g : Nat} {f0 : Vector Int 256} (h : IsS92 w0 W g f0) : g < W.heap.size := by
  obtain ⟨hb, hg⟩ := h; exact blk_lt hb
theorem IsS92.ge {w0 W : World} {g : Nat} {f0 : Vector Int 256} (h : IsS92 w0 W g f0) : w0.heap.size ≤ g := by
  obtain ⟨hb, hg⟩ := h; exact hg
theorem IsS92.ne_blk {w0 W : World} {g : Nat} {f0 : Vector Int 256} {a : Nat} {cs : Array Value} {t : TypeId} {fr : Nat × Nat} (h : IsS92 w0 W g f0) (hb2 : W.heap[a]? = some (.cells cs t fr)) (ht : t ≠ 92) : g ≠ a := by
  obtain ⟨hb, hg⟩ := h; rintro rfl; rw [hb] at hb2; injection hb2 with hb2; injection hb2 with _ ht2; exact ht ht2.symm
theorem IsS92.far {w0 W : World} {g : Nat} {f0 : Vector Int 256} {p : Addr} (h : IsS92 w0 W g f0) (hne : g ≠ p.block) (u : Value) : IsS92 w0 (W.setCell p u) g f0 := by
  obtain ⟨hb, hg⟩ := h; exact ⟨blk_far hb hne u, hg⟩
theorem IsS92.new (w0 W : World) (f0 : Vector Int 256) (hB : Below w0.heap.size w0 W) : IsS92 w0 (W.alloc (.cells (⟨Arr.arL .i64 f0⟩ : Array Value) 92)) W.heap.size f0 := ⟨by simpa using heap_alloc_new W _, hB.size⟩

/-! ### spec_l02Sums: function 54 -/
def spec_l02Sums.l0 : Nat → List (S65) → Int → Vector Int 256 → Option (Vector Int 256)
  | 0, _, _, _ => none
  | k + 1, x0, x4, x116000 => if x4 < (x0.length : Int) then (if 0 ≤ x4 then (if 0 ≤ ((rd_T65 x0 x4).f0) then (if ((rd_T65 x0 x4).f0) < 16 then (if 0 ≤ ((rd_T65 x0 x4).f1) then (if ((rd_T65 x0 x4).f1) < 16 then (spec_l02Sums.l0 k x0 (wrap64 (x4 + 1)) (Arr.vst2 16 x116000 ((rd_T65 x0 x4).f0) ((rd_T65 x0 x4).f1) (wrap64 ((Arr.vrd2 16 x116000 ((rd_T65 x0 x4).f0) ((rd_T65 x0 x4).f1)) + ((rd_T65 x0 x4).f2))))) else (none)) else (none)) else (none)) else (none)) else (none)) else (some x116000)
def spec_l02Sums.f (k : Nat) (l0 : List (S65)) : Option (Vector Int 256) := spec_l02Sums.l0 k l0 0 (Vector.replicate 256 0 : Vector Int 256)
theorem spec_l02Sums.mono_l : ∀ k, (∀ y0 y1 y2, LeO (spec_l02Sums.l0 k y0 y1 y2) (spec_l02Sums.l0 (k + 1) y0 y1 y2))
  | 0 => fun _ _ _ r h => by simp [spec_l02Sums.l0] at h
  | k + 1 => by
    have ih0 := spec_l02Sums.mono_l k
    · intro y0 y1 y2
      unfold spec_l02Sums.l0
      repeat' first
      | (with_reducible exact ih0 _ _ _)
      | (with_reducible exact LeO.refl _)
      | (with_reducible exact LeO.none _)
      | (with_reducible refine LeO.ite ?_ ?_)
      | (with_reducible refine LeO.bind ?_ (fun _ => ?_))
      | exact ih0 _ _ _
      | exact LeO.none _
      | refine LeO.ite ?_ ?_
      | refine LeO.bind ?_ (fun _ => ?_)
theorem spec_l02Sums.mono : ∀ a0 k, LeO (spec_l02Sums.f k a0) (spec_l02Sums.f (k + 1) a0) := by
  intro a0 k; have ih0 := spec_l02Sums.mono_l k; unfold spec_l02Sums.f
  repeat' first
      | (with_reducible exact ih0 _ _ _)
      | (with_reducible exact LeO.refl _)
      | (with_reducible exact LeO.none _)
      | (with_reducible refine LeO.ite ?_ ?_)
      | (with_reducible refine LeO.bind ?_ (fun _ => ?_))
      | exact ih0 _ _ _
      | exact LeO.none _
      | refine LeO.ite ?_ ?_
      | refine LeO.bind ?_ (fun _ => ?_)
def spec_l02Sums.T5 : Bool × List (List Nat × List Nat) := (true, [([], []), ([], []), ([], []), ([1, 2], [1, 2]), ([3], [3]), ([4], [4]), ([], []), ([], []), ([6, 7], [6, 7]), ([8], [8]), ([9], [9]), ([0], [0]), ([11, 5], [5, 11]), ([12, 10], [10, 12]), ([13], [13]), ([], []), ([], []), ([15, 16], [15, 16]), ([17], [17]), ([18], [18]), ([14, 19], [14, 19]), ([0], [0]), ([21, 5], [5, 21]), ([22, 10, 0, 1, 2, 3, 4, 5, 6, 7, 8, 9, 10, 11, 12, 13, 14, 15, 16, 17, 18, 19, 20], [10, 22]), ([23, 20, 0, 1, 2, 3, 4, 5, 6, 7, 8, 9, 10, 11, 12, 13, 14, 15, 16, 17, 18, 19, 20], [20, 23])])
def spec_l02Sums.B5 : List Nat := [0, 0, 0, 6, 14, 30, 0, 0, 192, 448, 960, 1, 2111, 8191, 16383, 0, 0, 98304, 229376, 491520, 1048575, 1, 2097215, 8388607, 16777215]
theorem spec_l02Sums.tab5 : rtab .any (opsOf Try.f54 5) = spec_l02Sums.T5 := by kernel_rfl
theorem spec_l02Sums.bits5 : waitsOk spec_l02Sums.T5.2 spec_l02Sums.B5 = true := by kernel_rfl
set_option maxHeartbeats 8000000 in
set_option maxRecDepth 100000 in
theorem spec_l02Sums.calls (k : Nat) (A0 : Option Addr) (c0 : Nat) (l0 : List (S65)) (r : Vector Int 256) (w0 w : World) (hB : Below w0.heap.size w0 w) (hr0 : Kd.C k65 w0 A0 l0.length l0) (hc0 : l0.length ≤ c0) (h : spec_l02Sums.f k l0 = some r) :
    Calls Try.prog 54 #[.slice A0 l0.length c0] w fun e w' => ∃ g_ : Nat, e = .returned (.pointer (some ⟨g_, 0, none⟩)) ∧ IsS92 w0 w' g_ r ∧ Below w0.heap.size w0 w' ∧ Below w.heap.size w w' := by
  suffices core_ : ∀ (w : World) (hr0 : Kd.C k65 w A0 l0.length l0), Calls Try.prog 54 #[.slice A0 l0.length c0] w fun e w' => ∃ g_ : Nat, e = .returned (.pointer (some ⟨g_, 0, none⟩)) ∧ IsS92 w w' g_ r ∧ Below w.heap.size w w' by
    refine (core_ w (Kd.C_below hr0 hB)).mono ?_; rintro e w' ⟨g_, he_, hi_, hb_⟩; exact ⟨g_, he_, ⟨hi_.1, Nat.le_trans hB.size hi_.2⟩, below_step hB hb_, hb_⟩
  clear hB hr0; intro w hr0; have hB := Below.refl w.heap.size w; have hu92 := Try.underlying92; have HR0 := Aside0.mk hr0; have HC0 := Aside0.mk hc0; clear hr0 hc0; have HBW := Aside0.mk (Below.refl w.heap.size w); have HW0 := Aside0.mk hB.size; have HB := Aside0.mk hB; clear hB; have H : (spec_l02Sums.l0 k l0 0 (Vector.replicate 256 0 : Vector Int 256)) = some r := h; clear h; have H' := Aside0.mk H; clear H; go_enter Try.func54, Try.ntmps54; go_wp2_with (first | ((with_reducible refine gate_dst (N := 6) rfl ?_); refine box_event ?hg (N := 6) ?hd (cs := (⟨Arr.arL .i64 (Vector.replicate 256 0 : Vector Int 256)⟩ : Array Value)) (t := 92) ?hr ?_; (case hd => rfl); (case hg => rfl); (case hr => first | (go_simp; done) | (go_simp; rfl)); intro gb115 hg w2 hbox hb; have n0_ := Aside0.mk (below_step HB.out hb); have n1_ := Aside0.mk (below_step z0_ hb); have n2_ := Aside0.mk (hbox); have n3_ := Aside0.mk ((by rw [hg]; exact (below_size z0_) : w.heap.size ≤ gb115)); have n4_ := Aside0.mk ((Nat.le_trans HW0.out (by rw [hg]; exact (below_size z0_) : w.heap.size ≤ gb115) : w.heap.size ≤ gb115)); clear HBW; clear HB; have HBW := n0_; have HB := n1_; have BK115 := n2_; have GW115 := n3_; have GE115 := n4_; clear n0_ n1_ n2_ n3_ n4_; clear hb hbox hg)); go_loopg [4] k (fun kq v4 w' => ∃ (x4_1 : Int) (x116000_1 : Vector Int 256), v4 = .int .i64 x4_1 ∧ Aside0 (spec_l02Sums.l0 kq l0 x4_1 x116000_1 = some r) ∧ Aside0 (kq ≤ k) ∧ Aside0 (w'.heap[gb115]? = some (.cells (⟨Arr.arL .i64 x116000_1⟩ : Array Value) 92 (0, 0))) ∧ Aside0 (Below w.heap.size w w'))
  case atStart => exact ⟨(0), ((Vector.replicate 256 0 : Vector Int 256)), z5_, H', ⟨Nat.le_refl _⟩, ⟨z48_⟩, ⟨z55_⟩⟩
  case round =>
    clear H'; (try clear p2); obtain ⟨x4_1, x116000_1, rfl, HA, HK1, BK115, HB⟩ := hrel
    cases gk with
    | zero => exact absurd HA.out (by simp [spec_l02Sums.l0])
    | succ k1 =>
      have H := HA.out; clear HA; simp only [spec_l02Sums.l0] at H; by_cases c3 : x4_1 < (l0.length : Int)
      · rw [if_pos c3] at H; have c3b0 : decide (x4_1 < (l0.length : Int)) = true := decide_eq_true c3; clear c3; by_cases c4 : 0 ≤ x4_1
        · rw [if_pos c4] at H; have c4b0 : decide (0 ≤ x4_1) = true := decide_eq_true c4; clear c4; by_cases c5 : 0 ≤ ((rd_T65 l0 x4_1).f0)
          · rw [if_pos c5] at H; have c5b0 : decide (0 ≤ ((rd_T65 l0 x4_1).f0)) = true := decide_eq_true c5; clear c5; by_cases c6 : ((rd_T65 l0 x4_1).f0) < 16
            · rw [if_pos c6] at H; have c6b0 : decide (((rd_T65 l0 x4_1).f0) < 16) = true := decide_eq_true c6; clear c6; by_cases c8 : 0 ≤ ((rd_T65 l0 x4_1).f1)
              · rw [if_pos c8] at H; have c8b0 : decide (0 ≤ ((rd_T65 l0 x4_1).f1)) = true := decide_eq_true c8; clear c8; by_cases c9 : ((rd_T65 l0 x4_1).f1) < 16
                · rw [if_pos c9] at H; have c9b0 : decide (((rd_T65 l0 x4_1).f1) < 16) = true := decide_eq_true c9; clear c9; obtain ⟨y119, hy119⟩ : ∃ y_ : Vector Int 256, y_ = (Arr.vst2 16 x116000_1 ((rd_T65 l0 x4_1).f0) ((rd_T65 l0 x4_1).f1) (wrap64 ((Arr.vrd2 16 x116000_1 ((rd_T65 l0 x4_1).f0) ((rd_T65 l0 x4_1).f1)) + ((rd_T65 l0 x4_1).f2)))) := ⟨_, rfl⟩; (replace H : (spec_l02Sums.l0 k1 l0 (wrap64 (x4_1 + 1)) y119) = some r := by first | (rw [hy119]; with_reducible exact H) | (have H2_ := (Option.bind_some _ _).symm.trans H; rw [hy119]; with_reducible exact H2_) | (have H2_ := (Option.bind_some _ _).symm.trans H; with_reducible exact H2_) | with_reducible exact H | (rw [hy119]; exact H) | exact H); have Ny119 := Aside0.mk hy119; clear hy119; have H' := Aside0.mk H; clear H; (try go_wp2); have n0_ := Aside0.mk (blk_drew BK115.out); have n1_ := Aside0.mk (below_drew1 HB.out); clear BK115; clear HB; have BK115 := n0_; have HB := n1_; clear n0_ n1_; have p116 : 0 ≤ (x4_1 : Int) := of_decide_eq_true z1_; have q116 : x4_1 < (l0.length : Int) := of_decide_eq_true z1_; obtain ⟨ad116, e116, hx116_0, hx116_1, hx116_2⟩ := at_T65 HR0.out x4_1 p116 q116; have hw116_2 := hx116_2; have hw116_1 := hx116_1; have hw116_0 := hx116_0; cases e116; replace hx116_0 := pw_cell_below HB.out hx116_0; replace hx116_1 := pw_cell_below HB.out hx116_1; replace hx116_2 := pw_cell_below HB.out hx116_2; replace p116 := eq_true p116; replace q116 := eq_true q116; have p117 : 0 ≤ (x4_1 : Int) := of_decide_eq_true z1_; have q117 : x4_1 < (l0.length : Int) := of_decide_eq_true z1_; obtain ⟨ad117, e117, hx117_0, hx117_1, hx117_2⟩ := at_T65 HR0.out x4_1 p117 q117; have hw117_2 := hx117_2; have hw117_1 := hx117_1; have hw117_0 := hx117_0; obtain rfl : ad116 = ad117 := (by injection e117); replace hx117_0 := pw_cell_below HB.out hx117_0; replace hx117_1 := pw_cell_below HB.out hx117_1; replace hx117_2 := pw_cell_below HB.out hx117_2; replace p117 := eq_true p117; replace q117 := eq_true q117; have p7 : 0 ≤ (((rd_T65 l0 x4_1).f0) : Int) := of_decide_eq_true z1_; have q7 : (((rd_T65 l0 x4_1).f0) : Int) < 16 := of_decide_eq_true z1_; replace p7 := eq_true p7; replace q7 := eq_true q7; have p10 : 0 ≤ (((rd_T65 l0 x4_1).f1) : Int) := of_decide_eq_true z1_; have q10 : (((rd_T65 l0 x4_1).f1) : Int) < 16 := of_decide_eq_true z1_; replace p10 := eq_true p10; replace q10 := eq_true q10; have p118 : 0 ≤ (x4_1 : Int) := of_decide_eq_true z1_; have q118 : x4_1 < (l0.length : Int) := of_decide_eq_true z1_; obtain ⟨ad118, e118, hx118_0, hx118_1, hx118_2⟩ := at_T65 HR0.out x4_1 p118 q118; have hw118_2 := hx118_2; have hw118_1 := hx118_1; have hw118_0 := hx118_0; obtain rfl : ad116 = ad118 := (by injection e118); replace hx118_0 := pw_cell_below HB.out hx118_0; replace hx118_1 := pw_cell_below HB.out hx118_1; replace hx118_2 := pw_cell_below HB.out hx118_2; replace p118 := eq_true p118; replace q118 := eq_true q118; have p12 : 0 ≤ (((rd_T65 l0 x4_1).f0) : Int) := of_decide_eq_true z1_; have q12 : (((rd_T65 l0 x4_1).f0) : Int) < 16 := of_decide_eq_true z1_; replace p12 := eq_true p12; replace q12 := eq_true q12; have p13 : 0 ≤ (((rd_T65 l0 x4_1).f1) : Int) := of_decide_eq_true z1_; have q13 : (((rd_T65 l0 x4_1).f1) : Int) < 16 := of_decide_eq_true z1_; replace p13 := eq_true p13; replace q13 := eq_true q13; refine start_ (n := 25) (S := fun w' => w'.cell? (ad116.add ((x4_1).toNat * 3)) = some (.int .i64 ((rd_T65 l0 x4_1).f0)) ∧ w'.cell? ⟨(ad116.add ((x4_1).toNat * 3)).block, (ad116.add ((x4_1).toNat * 3)).off + 1, none⟩ = some (.int .i64 ((rd_T65 l0 x4_1).f1)) ∧ w'.cell? ⟨(ad116.add ((x4_1).toNat * 3)).block, (ad116.add ((x4_1).toNat * 3)).off + 2, none⟩ = some (.int .i64 ((rd_T65 l0 x4_1).f2)) ∧ w'.cell? (ad116.add ((x4_1).toNat * 3)) = some (.int .i64 ((rd_T65 l0 x4_1).f0)) ∧ w'.cell? ⟨(ad116.add ((x4_1).toNat * 3)).block, (ad116.add ((x4_1).toNat * 3)).off + 1, none⟩ = some (.int .i64 ((rd_T65 l0 x4_1).f1)) ∧ w'.cell? ⟨(ad116.add ((x4_1).toNat * 3)).block, (ad116.add ((x4_1).toNat * 3)).off + 2, none⟩ = some (.int .i64 ((rd_T65 l0 x4_1).f2)) ∧ w'.cell? ⟨gb115, ((rd_T65 l0 x4_1).f0).toNat * 16 + ((rd_T65 l0 x4_1).f1).toNat, none⟩ = some (.int .i64 (Arr.vrd2 16 x116000_1 ((rd_T65 l0 x4_1).f0) ((rd_T65 l0 x4_1).f1))) ∧ w'.cell? (ad116.add ((x4_1).toNat * 3)) = some (.int .i64 ((rd_T65 l0 x4_1).f0)) ∧ w'.cell? ⟨(ad116.add ((x4_1).toNat * 3)).block, (ad116.add ((x4_1).toNat * 3)).off + 1, none⟩ = some (.int .i64 ((rd_T65 l0 x4_1).f1)) ∧ w'.cell? ⟨(ad116.add ((x4_1).toNat * 3)).block, (ad116.add ((x4_1).toNat * 3)).off + 2, none⟩ = some (.int .i64 ((rd_T65 l0 x4_1).f2))) (ds := [24]) #[false, false, false, false, false, false, false, false, false, false, false, false, false, false, false, false, false, false, false, false, false, false, false, false, false] z4_ rfl rfl ⟨((HB.out.cell (World.block_lt_of_cell? _ _ hw116_0)).trans hw116_0), ((HB.out.cell (World.block_lt_of_cell? _ _ hw116_1)).trans hw116_1), ((HB.out.cell (World.block_lt_of_cell? _ _ hw116_2)).trans hw116_2), ((HB.out.cell (World.block_lt_of_cell? _ _ hw117_0)).trans hw117_0), ((HB.out.cell (World.block_lt_of_cell? _ _ hw117_1)).trans hw117_1), ((HB.out.cell (World.block_lt_of_cell? _ _ hw117_2)).trans hw117_2), (Arr.cellN (off := 0) (l := (Arr.arL .i64 x116000_1)) (BK115.out) rfl (((rd_T65 l0 x4_1).f0).toNat * 16 + ((rd_T65 l0 x4_1).f1).toNat) (((rd_T65 l0 x4_1).f0).toNat * 16 + ((rd_T65 l0 x4_1).f1).toNat) (by omega) (by have a0_ := of_eq_true p7; have b0_ := of_eq_true q7; have a1_ := of_eq_true p10; have b1_ := of_eq_true q10; omega)), ((HB.out.cell (World.block_lt_of_cell? _ _ hw118_0)).trans hw118_0), ((HB.out.cell (World.block_lt_of_cell? _ _ hw118_1)).trans hw118_1), ((HB.out.cell (World.block_lt_of_cell? _ _ hw118_2)).trans hw118_2)⟩ (fun hHeld => ?_); refine with_tabW spec_l02Sums.tab5 spec_l02Sums.bits5 (fun HT_ HW_ => ?_); generalize wr.drew = w15 at BK115 HB hx116_0 hx116_1 hx116_2 hx117_0 hx117_1 hx117_2 hx118_0 hx118_1 hx118_2 hHeld ⊢; refine pure_ (i := 0) (N := some 13) (v := ?_) (a' := ?_) #[true, false, false, false, false, false, false, false, false, false, false, false, false, false, false, false, false, false, false, false, false, false, false, false, false] rfl rfl (any_of HT_.out z4_) (fun _ _ _ h => h) (Or.inl ⟨by rfl, ?_⟩) ?_ ?_; rotate_left
                  · intro w'; go_simp; with_reducible rfl
                  rotate_left
                  · simp only [Act.put, List.setIfInBounds_toArray, List.set_cons_zero, List.set_cons_succ, i64_w, i32_w]; rfl
                  refine pure_ (i := 1) (N := some 14) (v := ?_) (a' := ?_) #[true, true, false, false, false, false, false, false, false, false, false, false, false, false, false, false, false, false, false, false, false, false, false, false, false] rfl rfl (any_of HT_.out z4_) (fun _ _ _ h => h) (Or.inl ⟨by rfl, ?_⟩) ?_ ?_; rotate_left
                  · intro w'; go_simp; with_reducible rfl
                  rotate_left
                  · simp only [Act.put, List.setIfInBounds_toArray, List.set_cons_zero, List.set_cons_succ, i64_w, i32_w]; rfl
                  refine pure_ (i := 2) (N := some 15) (v := ?_) (a' := ?_) #[true, true, true, false, false, false, false, false, false, false, false, false, false, false, false, false, false, false, false, false, false, false, false, false, false] rfl rfl (any_of HT_.out z4_) (fun _ _ _ h => h) (Or.inl ⟨by rfl, ?_⟩) ?_ ?_; rotate_left
                  · intro w'; go_simp; with_reducible rfl
                  rotate_left
                  · simp only [Act.put, List.setIfInBounds_toArray, List.set_cons_zero, List.set_cons_succ, i64_w, i32_w]; rfl
                  refine pure_ (i := 3) (N := some 16) (v := ?_) (a' := ?_) #[true, true, true, true, false, false, false, false, false, false, false, false, false, false, false, false, false, false, false, false, false, false, false, false, false] rfl rfl (any_of HT_.out z4_) (fun _ _ _ h => h) (Or.inl ⟨by rfl, ?_⟩) ?_ ?_; rotate_left
                  · intro w'; go_simp; with_reducible rfl
                  rotate_left
                  · simp only [Act.put, List.setIfInBounds_toArray, List.set_cons_zero, List.set_cons_succ, i64_w, i32_w]; rfl
                  refine pure_ (i := 4) (N := some 17) (v := ?_) (a' := ?_) #[true, true, true, true, true, false, false, false, false, false, false, false, false, false, false, false, false, false, false, false, false, false, false, false, false] rfl rfl (any_of HT_.out z4_) (fun _ _ _ h => h) (Or.inl ⟨by rfl, ?_⟩) ?_ ?_; rotate_left
                  · intro w'; go_simp; with_reducible rfl
                  rotate_left
                  · simp only [Act.put, List.setIfInBounds_toArray, List.set_cons_zero, List.set_cons_succ, i64_w, i32_w]; rfl
                  refine pure_ (i := 6) (N := some 19) (v := ?_) (a' := ?_) #[true, true, true, true, true, false, true, false, false, false, false, false, false, false, false, false, false, false, false, false, false, false, false, false, false] rfl rfl (any_of HT_.out z4_) (fun _ _ _ h => h) (Or.inl ⟨by rfl, ?_⟩) ?_ ?_; rotate_left
                  · intro w'; go_simp; with_reducible rfl
                  rotate_left
                  · simp only [Act.put, List.setIfInBounds_toArray, List.set_cons_zero, List.set_cons_succ, i64_w, i32_w]; rfl
                  refine pure_ (i := 7) (N := some 20) (v := ?_) (a' := ?_) #[true, true, true, true, true, false, true, true, false, false, false, false, false, false, false, false, false, false, false, false, false, false, false, false, false] rfl rfl (any_of HT_.out z4_) (fun _ _ _ h => h) (Or.inl ⟨by rfl, ?_⟩) ?_ ?_; rotate_left
                  · intro w'; go_simp; with_reducible rfl
                  rotate_left
                  · simp only [Act.put, List.setIfInBounds_toArray, List.set_cons_zero, List.set_cons_succ, i64_w, i32_w]; rfl
                  refine pure_ (i := 8) (N := some 21) (v := ?_) (a' := ?_) #[true, true, true, true, true, false, true, true, true, false, false, false, false, false, false, false, false, false, false, false, false, false, false, false, false] rfl rfl (any_of HT_.out z4_) (fun _ _ _ h => h) (Or.inl ⟨by rfl, ?_⟩) ?_ ?_; rotate_left
                  · intro w'; go_simp; with_reducible rfl
                  rotate_left
                  · simp only [Act.put, List.setIfInBounds_toArray, List.set_cons_zero, List.set_cons_succ, i64_w, i32_w]; rfl
                  refine pure_ (i := 9) (N := some 22) (v := ?_) (a' := ?_) #[true, true, true, true, true, false, true, true, true, true, false, false, false, false, false, false, false, false, false, false, false, false, false, false, false] rfl rfl (any_of HT_.out z4_) (fun _ _ _ h => h) (Or.inl ⟨by rfl, ?_⟩) ?_ ?_; rotate_left
                  · intro w'; go_simp; with_reducible rfl
                  rotate_left
                  · simp only [Act.put, List.setIfInBounds_toArray, List.set_cons_zero, List.set_cons_succ, i64_w, i32_w]; rfl
                  refine pure_ (i := 11) (N := some 24) (v := ?_) (a' := ?_) #[true, true, true, true, true, false, true, true, true, true, false, true, false, false, false, false, false, false, false, false, false, false, false, false, false] rfl rfl (any_of HT_.out z4_) (fun _ _ _ h => h) (Or.inl ⟨by rfl, ?_⟩) ?_ ?_; rotate_left
                  · intro w'; go_simp; with_reducible rfl
                  rotate_left
                  · simp only [Act.put, List.setIfInBounds_toArray, List.set_cons_zero, List.set_cons_succ, i64_w, i32_w]; rfl
                  refine pure_ (i := 15) (N := some 28) (v := ?_) (a' := ?_) #[true, true, true, true, true, false, true, true, true, true, false, true, false, false, false, true, false, false, false, false, false, false, false, false, false] rfl rfl (any_of HT_.out z4_) (fun _ _ _ h => h) (Or.inl ⟨by rfl, ?_⟩) ?_ ?_; rotate_left
                  · intro w'; go_simp; with_reducible rfl
                  rotate_left
                  · simp only [Act.put, List.setIfInBounds_toArray, List.set_cons_zero, List.set_cons_succ, i64_w, i32_w]; rfl
                  refine pure_ (i := 16) (N := some 29) (v := ?_) (a' := ?_) #[true, true, true, true, true, false, true, true, true, true, false, true, false, false, false, true, true, false, false, false, false, false, false, false, false] rfl rfl (any_of HT_.out z4_) (fun _ _ _ h => h) (Or.inl ⟨by rfl, ?_⟩) ?_ ?_; rotate_left
                  · intro w'; go_simp; with_reducible rfl
                  rotate_left
                  · simp only [Act.put, List.setIfInBounds_toArray, List.set_cons_zero, List.set_cons_succ, i64_w, i32_w]; rfl
                  refine pure_ (i := 17) (N := some 30) (v := ?_) (a' := ?_) #[true, true, true, true, true, false, true, true, true, true, false, true, false, false, false, true, true, true, false, false, false, false, false, false, false] rfl rfl (any_of HT_.out z4_) (fun _ _ _ h => h) (Or.inl ⟨by rfl, ?_⟩) ?_ ?_; rotate_left
                  · intro w'; go_simp; with_reducible rfl
                  rotate_left
                  · simp only [Act.put, List.setIfInBounds_toArray, List.set_cons_zero, List.set_cons_succ, i64_w, i32_w]; rfl
                  refine pure_ (i := 18) (N := some 31) (v := ?_) (a' := ?_) #[true, true, true, true, true, false, true, true, true, true, false, true, false, false, false, true, true, true, true, false, false, false, false, false, false] rfl rfl (any_of HT_.out z4_) (fun _ _ _ h => h) (Or.inl ⟨by rfl, ?_⟩) ?_ ?_; rotate_left
                  · intro w'; go_simp; with_reducible rfl
                  rotate_left
                  · simp only [Act.put, List.setIfInBounds_toArray, List.set_cons_zero, List.set_cons_succ, i64_w, i32_w]; rfl
                  refine pure_ (i := 21) (N := some 34) (v := ?_) (a' := ?_) #[true, true, true, true, true, false, true, true, true, true, false, true, false, false, false, true, true, true, true, false, false, true, false, false, false] rfl rfl (any_of HT_.out z4_) (fun _ _ _ h => h) (Or.inl ⟨by rfl, ?_⟩) ?_ ?_; rotate_left
                  · intro w'; go_simp; with_reducible rfl
                  rotate_left
                  · simp only [Act.put, List.setIfInBounds_toArray, List.set_cons_zero, List.set_cons_succ, i64_w, i32_w]; rfl
                  refine take_ (i := 5) (N := some 18) (v := ?_) (a' := ?_) #[true, true, true, true, true, true, true, true, true, true, false, true, false, false, false, true, true, true, true, false, false, true, false, false, false] rfl rfl (take_ofW HT_.out HW_.out z4_) (fun _ _ _ h => h) (Or.inl ⟨by rfl, ?_⟩) hHeld ?_ ?_; rotate_left
                  · rintro w' ⟨s0, s1, s2, s3, s4, s5, s6, s7, s8, s9⟩; go_simp; with_reducible rfl
                  rotate_left
                  · simp only [Act.put, List.setIfInBounds_toArray, List.set_cons_zero, List.set_cons_succ, i64_w, i32_w]; rfl
                  refine pure_ (i := 12) (N := some 25) (v := ?_) (a' := ?_) #[true, true, true, true, true, true, true, true, true, true, false, true, true, false, false, true, true, true, true, false, false, true, false, false, false] rfl rfl (any_of HT_.out z4_) (fun _ _ _ h => h) (Or.inl ⟨by rfl, ?_⟩) ?_ ?_; rotate_left
                  · intro w'; go_simp; with_reducible rfl
                  rotate_left
                  · simp only [Act.put, List.setIfInBounds_toArray, List.set_cons_zero, List.set_cons_succ, i64_w, i32_w]; rfl
                  refine pure_ (i := 22) (N := some 35) (v := ?_) (a' := ?_) #[true, true, true, true, true, true, true, true, true, true, false, true, true, false, false, true, true, true, true, false, false, true, true, false, false] rfl rfl (any_of HT_.out z4_) (fun _ _ _ h => h) (Or.inl ⟨by rfl, ?_⟩) ?_ ?_; rotate_left
                  · intro w'; go_simp; with_reducible rfl
                  rotate_left
                  · simp only [Act.put, List.setIfInBounds_toArray, List.set_cons_zero, List.set_cons_succ, i64_w, i32_w]; rfl
                  refine take_ (i := 10) (N := some 23) (v := ?_) (a' := ?_) #[true, true, true, true, true, true, true, true, true, true, true, true, true, false, false, true, true, true, true, false, false, true, true, false, false] rfl rfl (take_ofW HT_.out HW_.out z4_) (fun _ _ _ h => h) (Or.inl ⟨by rfl, ?_⟩) hHeld ?_ ?_; rotate_left
                  · rintro w' ⟨s0, s1, s2, s3, s4, s5, s6, s7, s8, s9⟩; go_simp; with_reducible rfl
                  rotate_left
                  · simp only [Act.put, List.setIfInBounds_toArray, List.set_cons_zero, List.set_cons_succ, i64_w, i32_w]; rfl
                  refine pure_ (i := 13) (N := some 26) (v := ?_) (a' := ?_) #[true, true, true, true, true, true, true, true, true, true, true, true, true, true, false, true, true, true, true, false, false, true, true, false, false] rfl rfl (any_of HT_.out z4_) (fun _ _ _ h => h) (Or.inl ⟨by rfl, ?_⟩) ?_ ?_; rotate_left
                  · intro w'; go_simp; with_reducible rfl
                  rotate_left
                  · simp only [Act.put, List.setIfInBounds_toArray, List.set_cons_zero, List.set_cons_succ, i64_w, i32_w]; rfl
                  refine take_ (i := 14) (N := some 27) (v := ?_) (a' := ?_) #[true, true, true, true, true, true, true, true, true, true, true, true, true, true, true, true, true, true, true, false, false, true, true, false, false] rfl rfl (take_ofW HT_.out HW_.out z4_) (fun _ _ _ h => h) (Or.inl ⟨by rfl, ?_⟩) hHeld ?_ ?_; rotate_left
                  · rintro w' ⟨s0, s1, s2, s3, s4, s5, s6, s7, s8, s9⟩; go_simp; with_reducible rfl
                  rotate_left
                  · simp only [Act.put, List.setIfInBounds_toArray, List.set_cons_zero, List.set_cons_succ, i64_w, i32_w]; rfl
                  refine take_ (i := 19) (N := some 32) (v := ?_) (a' := ?_) #[true, true, true, true, true, true, true, true, true, true, true, true, true, true, true, true, true, true, true, true, false, true, true, false, false] rfl rfl (take_ofW HT_.out HW_.out z4_) (fun _ _ _ h => h) (Or.inl ⟨by rfl, ?_⟩) hHeld ?_ ?_; rotate_left
                  · rintro w' ⟨s0, s1, s2, s3, s4, s5, s6, s7, s8, s9⟩; go_simp; with_reducible rfl
                  rotate_left
                  · simp only [Act.put, List.setIfInBounds_toArray, List.set_cons_zero, List.set_cons_succ, i64_w, i32_w]; rfl
                  refine pure_ (i := 20) (N := some 33) (v := ?_) (a' := ?_) #[true, true, true, true, true, true, true, true, true, true, true, true, true, true, true, true, true, true, true, true, true, true, true, false, false] rfl rfl (any_of HT_.out z4_) (fun _ _ _ h => h) (Or.inl ⟨by rfl, ?_⟩) ?_ ?_; rotate_left
                  · intro w'; go_simp; with_reducible rfl
                  rotate_left
                  · simp only [Act.put, List.setIfInBounds_toArray, List.set_cons_zero, List.set_cons_succ, i64_w, i32_w]; rfl
                  refine pure_ (i := 23) (N := some 36) (v := ?_) (a' := ?_) #[true, true, true, true, true, true, true, true, true, true, true, true, true, true, true, true, true, true, true, true, true, true, true, true, false] rfl rfl (any_of HT_.out z4_) (fun _ _ _ h => h) (Or.inl ⟨by rfl, ?_⟩) ?_ ?_; rotate_left
                  · intro w'; go_simp; with_reducible rfl
                  rotate_left
                  · simp only [Act.put, List.setIfInBounds_toArray, List.set_cons_zero, List.set_cons_succ, i64_w, i32_w]; rfl
                  refine last_ (i := 24) (N := none) #[true, true, true, true, true, true, true, true, true, true, true, true, true, true, true, true, true, true, true, true, true, true, true, true, true] rfl rfl (one_of HT_.out z4_) (by decide) (fun K hK => ?_); have hx14 : w15.cell? ⟨gb115, ((rd_T65 l0 x4_1).f0).toNat * 16 + ((rd_T65 l0 x4_1).f1).toNat, none⟩ = some (.int .i64 (Arr.vrd2 16 x116000_1 ((rd_T65 l0 x4_1).f0) ((rd_T65 l0 x4_1).f1))) := Arr.cellN (off := 0) (l := (Arr.arL .i64 x116000_1)) (show w15.heap[gb115]? = some (.cells (⟨Arr.arL .i64 x116000_1⟩ : Array Value) 92 (0, 0)) from z48_) rfl (((rd_T65 l0 x4_1).f0).toNat * 16 + ((rd_T65 l0 x4_1).f1).toNat) (((rd_T65 l0 x4_1).f0).toNat * 16 + ((rd_T65 l0 x4_1).f1).toNat) (by omega) (by have a0_ := of_eq_true p12; have b0_ := of_eq_true q12; have a1_ := of_eq_true p13; have b1_ := of_eq_true q13; omega); have hf14 := blk_frozen (show w15.heap[gb115]? = some (.cells (⟨Arr.arL .i64 x116000_1⟩ : Array Value) 92 (0, 0)) from z48_) (((rd_T65 l0 x4_1).f0).toNat * 16 + ((rd_T65 l0 x4_1).f1).toNat); refine skip_ (w1 := w15.setCell ⟨gb115, ((rd_T65 l0 x4_1).f0).toNat * 16 + ((rd_T65 l0 x4_1).f1).toNat, none⟩ (.int .i64 (wrap64 ((Arr.vrd2 16 x116000_1 ((rd_T65 l0 x4_1).f0) ((rd_T65 l0 x4_1).f1)) + ((rd_T65 l0 x4_1).f2))))) (by rfl) rfl ?_ ?_
                  · first | (go_simp; done) | (go_simp; rfl)
                  refine hK.out _ _ ?_; clear hK K; refine done_ (done_of HT_.out z4_) ?_; obtain ⟨w16, hw_, hbx, hg, hbe⟩ := Arr.stored_at (g := gb115) (off := 0) (m := ((rd_T65 l0 x4_1).f0).toNat * 16 + ((rd_T65 l0 x4_1).f1).toNat) (n := ((rd_T65 l0 x4_1).f0).toNat * 16 + ((rd_T65 l0 x4_1).f1).toNat) (k := .i64) (y := (wrap64 ((Arr.vrd2 16 x116000_1 ((rd_T65 l0 x4_1).f0) ((rd_T65 l0 x4_1).f1)) + ((rd_T65 l0 x4_1).f2)))) (x := x116000_1) (t := 92) (pre := []) (show w15.heap[gb115]? = some (.cells (⟨Arr.arL .i64 x116000_1⟩ : Array Value) 92 (0, 0)) from z48_) rfl (by omega); rw [hw_]; clear hw_; replace hbx : w16.heap[gb115]? = some (.cells (⟨Arr.arL .i64 y119⟩ : Array Value) 92 (0, 0)) := (by rw [Ny119.out]; exact hbx); have n0_ := Aside0.mk (hbx); have n1_ := Aside0.mk (hbe _ _ HB.out GW115.out); have n2_ := Aside0.mk (hbe _ _ z55_ GE115.out); clear BK115; clear HBW; clear HB; have BK115 := n0_; have HBW := n1_; have HB := n2_; clear n0_ n1_ n2_; (try clear hbx hg hbe); (try go_wp2); go_roundg k1
                  case measure => have := HK1.out; omega
                  case rel => exact ⟨(wrap64 (x4_1 + 1)), (y119), z5_, H', ⟨z78_⟩, ⟨z48_⟩, ⟨z55_⟩⟩
                · rw [if_neg c9] at H; exact absurd H (by simp)
              · rw [if_neg c8] at H; exact absurd H (by simp)
            · rw [if_neg c6] at H; exact absurd H (by simp)
          · rw [if_neg c5] at H; exact absurd H (by simp)
        · rw [if_neg c4] at H; exact absurd H (by simp)
      · rw [if_neg c3] at H; have c3b0 : decide (x4_1 < (l0.length : Int)) = false := decide_eq_false c3; clear c3; obtain rfl := Option.some.inj H; go_wp2; go_ret; exact ⟨_, rfl, (show IsS92 w _ gb115 x116000_1 from ⟨z48_, GE115.out⟩), z55_⟩

/-! ### spec_OwedBetween: function 16 -/
def spec_OwedBetween.f (k : Nat) (a0 : Int) (l1 : List (S65)) (a2 : Int) (a3 : Int) : Option (Int × Int) := (spec_l02Two.f k a0 l1 a2 a3).bind fun t120 => (if t120 = 0 then ((spec_l02Sums.f k l1).bind fun t121 => (if 0 ≤ a2 then (if a2 < 16 then (if 0 ≤ a3 then (if a3 < 16 then (some (Arr.vrd2 16 t121 a2 a3, 0)) else (none)) else (none)) else (none)) else (none))) else (some (0, t120)))
theorem spec_OwedBetween.mono : ∀ a0 a1 a2 a3 k, LeO (spec_OwedBetween.f k a0 a1 a2 a3) (spec_OwedBetween.f (k + 1) a0 a1 a2 a3) := by
  intro a0 a1 a2 a3 k; unfold spec_OwedBetween.f
  repeat' first
      | (with_reducible exact spec_l02Sums.mono _ _)
      | (with_reducible exact spec_l02Two.mono _ _ _ _ _)
      | (with_reducible exact LeO.refl _)
      | (with_reducible exact LeO.none _)
      | (with_reducible refine LeO.ite ?_ ?_)
      | (with_reducible refine LeO.bind ?_ (fun _ => ?_))
      | exact spec_l02Sums.mono _ _
      | exact spec_l02Two.mono _ _ _ _ _
      | exact LeO.none _
      | refine LeO.ite ?_ ?_
      | refine LeO.bind ?_ (fun _ => ?_)
set_option maxHeartbeats 8000000 in
set_option maxRecDepth 100000 in
theorem spec_OwedBetween.calls (k : Nat) (a0 : Int) (A1 : Option Addr) (c1 : Nat) (l1 : List (S65)) (a2 : Int) (a3 : Int) (r1 : Int) (r2 : Int) (w : World) (hr1 : Kd.C k65 w A1 l1.length l1) (hc1 : l1.length ≤ c1) (h : spec_OwedBetween.f k a0 l1 a2 a3 = some (r1, r2)) :
    Calls Try.prog 16 #[.int .i64 a0, .slice A1 l1.length c1, .int .i64 a2, .int .i64 a3] w fun e w' => e = .returned (.tuple #[.int .i64 r1, .int .i64 r2]) ∧ Below w.heap.size w w' := by
  have HR1 := Aside0.mk hr1; have HC1 := Aside0.mk hc1; clear hr1 hc1; have HB := Aside0.mk (Below.refl w.heap.size w); have H : ((spec_l02Two.f k a0 l1 a2 a3).bind fun t120 => (if t120 = 0 then ((spec_l02Sums.f k l1).bind fun t121 => (if 0 ≤ a2 then (if a2 < 16 then (if 0 ≤ a3 then (if a3 < 16 then (some (Arr.vrd2 16 t121 a2 a3, 0)) else (none)) else (none)) else (none)) else (none))) else (some (0, t120)))) = some (r1, r2) := h; clear h; replace H := Option.bind_eq_some_iff.mp H; obtain ⟨t120, A50, H⟩ := H; replace H : (if t120 = 0 then ((spec_l02Sums.f k l1).bind fun t121 => (if 0 ≤ a2 then (if a2 < 16 then (if 0 ≤ a3 then (if a3 < 16 then (some (Arr.vrd2 16 t121 a2 a3, 0)) else (none)) else (none)) else (none)) else (none))) else (some (0, t120))) = some (r1, r2) := H; have A5 := Aside0.mk A50; clear A50; by_cases c6 : t120 = 0
  · rw [if_pos c6] at H; have c6b0 : (t120 == 0) = true := beq_iff_eq.mpr c6; have c6b1 : (t120 != 0) = false := bne_eq_false_iff_eq.mpr c6; clear c6; replace H := Option.bind_eq_some_iff.mp H; obtain ⟨t121, A70, H⟩ := H; replace H : (if 0 ≤ a2 then (if a2 < 16 then (if 0 ≤ a3 then (if a3 < 16 then (some (Arr.vrd2 16 t121 a2 a3, 0)) else (none)) else (none)) else (none)) else (none)) = some (r1, r2) := H; have A7 := Aside0.mk A70; clear A70; by_cases c8 : 0 ≤ a2
    · rw [if_pos c8] at H; have c8b0 : decide (0 ≤ a2) = true := decide_eq_true c8; clear c8; by_cases c9 : a2 < 16
      · rw [if_pos c9] at H; have c9b0 : decide (a2 < 16) = true := decide_eq_true c9; clear c9; by_cases c11 : 0 ≤ a3
        · rw [if_pos c11] at H; have c11b0 : decide (0 ≤ a3) = true := decide_eq_true c11; clear c11; by_cases c12 : a3 < 16
          · rw [if_pos c12] at H; have c12b0 : decide (a3 < 16) = true := decide_eq_true c12; clear c12; simp only [Option.some.injEq, Prod.mk.injEq] at H; obtain ⟨rfl, rfl⟩ := H; go_enter Try.func16, Try.ntmps16; go_wp2_with (first | ((with_reducible refine gate_callee (f := 53) rfl ?_); refine goesL_ (some 15) rfl rfl Try.func53 z4_ rfl #[.int .i64 a0, .slice A1 l1.length c1, .int .i64 a2, .int .i64 a3] rfl z2_ ?_; (with_reducible refine (spec_l02Two.calls k a0 _ _ l1 a2 a3 t120 _ ?side1 ?side2 A5.out).mono ?_); (case side1 => repeat (first | exact HR1.out | (with_reducible refine Kd.C_alloc ?_ _) | (with_reducible refine Kd.C_drewN ?_ _) | (with_reducible refine Kd.C_drew ?_))); (case side2 => exact HC1.out); rintro e w15 ⟨rfl, hb⟩; refine ⟨_, rfl, ?_⟩; have n0_ := Aside0.mk (below_step z0_ hb); clear HB; have HB := n0_; clear n0_; (try clear hb); (try clear hb2); (try clear hk); (try clear hi)) | ((with_reducible refine gate_callee (f := 54) rfl ?_); refine goesL_ (some 20) rfl rfl Try.func54 z4_ rfl #[.slice A1 l1.length c1] rfl z2_ ?_; (with_reducible refine (spec_l02Sums.calls k _ _ l1 t121 w _ ?side1 ?side2 ?side3 A7.out).mono ?_); (case side1 => repeat (first | (with_reducible first | exact HB.out | apply below_alloc | apply pw_below_drewN | apply below_drew1) | exact HB.out)); (case side2 => exact HR1.out); (case side3 => exact HC1.out); rintro e w16 ⟨g122, rfl, hi, hb, hb2⟩; refine ⟨_, rfl, ?_⟩; have n0_ := Aside0.mk (hb); have n1_ := Aside0.mk (hi); clear HB; have HB := n0_; have HI122 := n1_; clear n0_ n1_; (try clear hb); (try clear hb2); (try clear hk); (try clear hi); have p10 : 0 ≤ (a2 : Int) := of_decide_eq_true z1_; have q10 : (a2 : Int) < 16 := of_decide_eq_true z1_; replace p10 := eq_true p10; replace q10 := eq_true q10; have p13 : 0 ≤ (a3 : Int) := of_decide_eq_true z1_; have q13 : (a3 : Int) < 16 := of_decide_eq_true z1_; replace p13 := eq_true p13; replace q13 := eq_true q13; have hx14 : w16.cell? ⟨g122, a2.toNat * 16 + a3.toNat, none⟩ = some (.int .i64 (Arr.vrd2 16 t121 a2 a3)) := Arr.cellN (off := 0) (l := (Arr.arL .i64 t121)) ((show IsS92 w w16 g122 t121 from by repeat (first | (with_reducible first | exact HI122.out | apply IsS92.alloc | apply IsS92.drewN | apply IsS92.drew | apply IsS92.set_0) | exact HI122.out)).1) rfl (a2.toNat * 16 + a3.toNat) (a2.toNat * 16 + a3.toNat) (by omega) (by have a0_ := of_eq_true p10; have b0_ := of_eq_true q10; have a1_ := of_eq_true p13; have b1_ := of_eq_true q13; omega); have hf14 := blk_frozen ((show IsS92 w w16 g122 t121 from by repeat (first | (with_reducible first | exact HI122.out | apply IsS92.alloc | apply IsS92.drewN | apply IsS92.drew | apply IsS92.set_0) | exact HI122.out)).1) (a2.toNat * 16 + a3.toNat))); go_ret2; exact ⟨z3_, by repeat (first | (with_reducible first | exact HB.out | apply below_alloc | apply pw_below_drewN | apply below_drew1 | refine below_set ?_ (IsS92.ge HI122.out)) | exact HB.out)⟩
          · rw [if_neg c12] at H; exact absurd H (by simp)
        · rw [if_neg c11] at H; exact absurd H (by simp)
      · rw [if_neg c9] at H; exact absurd H (by simp)
    · rw [if_neg c8] at H; exact absurd H (by simp)
  · rw [if_neg c6] at H; have c6b0 : (t120 == 0) = false := beq_eq_false_iff_ne.mpr c6; have c6b1 : (t120 != 0) = true := bne_iff_ne.mpr c6; simp only [Option.some.injEq, Prod.mk.injEq] at H; obtain ⟨rfl, rfl⟩ := H; go_enter Try.func16, Try.ntmps16; go_wp2_with (first | ((with_reducible refine gate_callee (f := 53) rfl ?_); refine goesL_ (some 15) rfl rfl Try.func53 z4_ rfl #[.int .i64 a0, .slice A1 l1.length c1, .int .i64 a2, .int .i64 a3] rfl z2_ ?_; (with_reducible refine (spec_l02Two.calls k a0 _ _ l1 a2 a3 t120 _ ?side1 ?side2 A5.out).mono ?_); (case side1 => repeat (first | exact HR1.out | (with_reducible refine Kd.C_alloc ?_ _) | (with_reducible refine Kd.C_drewN ?_ _) | (with_reducible refine Kd.C_drew ?_))); (case side2 => exact HC1.out); rintro e w17 ⟨rfl, hb⟩; refine ⟨_, rfl, ?_⟩; have n0_ := Aside0.mk (below_step z0_ hb); clear HB; have HB := n0_; clear n0_; (try clear hb); (try clear hb2); (try clear hk); (try clear hi))); go_ret2; exact ⟨z3_, z0_⟩

end Go.Proofs.Ytofcgkcpkngocaa.MPaid
