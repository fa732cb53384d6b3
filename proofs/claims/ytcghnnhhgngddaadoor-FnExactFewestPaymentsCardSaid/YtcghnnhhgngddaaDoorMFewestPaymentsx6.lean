-- by a program of this session, for this claim
import Derived.Test.YtcghnnhhgngddaaDoorMFewestPaymentsx0
import Derived.Test.YtcghnnhhgngddaaDoorMFewestPaymentsx5
namespace Go.Proofs.YtcghnnhhgngddaaDoor.MFewestPayments
open Go.RowKit Go.Proofs.YtcghnnhhgngddaaDoorW.PrintWords Go.Proofs.YtcghnnhhgngddaaDoorW.PrintLast Go.Proofs.YtcghnnhhgngddaaDoorW.PrintMore
attribute [local go_sem] max2_int min2_int max_two min_two max_three min_three max_four min_four   -- for this text's walks alone
set_option linter.unusedVariables false
set_option linter.unusedSimpArgs false

/-! ### impl_partingOf: function 25 -/
/-- where partingOf's groups lie -/
def Pp (n : Nat) (w : World) (c : Int) (pv v0 v1 v2 : Value) : Prop := c = 0 → ∃ g : Nat, pv = .pointer (some ⟨g, 0, none⟩) ∧ n ≤ g ∧ w.heap[g]? = some (.cells #[v0, v1, v2] 46 (0, 0))
mutual
def impl_partingOf.l0 : Nat → List Int → List Int → Int → Int → List Int → Option (List Int × List Int × List Int × Int)
  | 0, _, _, _, _, _ => none
  | k + 1, x0, x16, x17, x18, x210000 => if x18 < x17 then (if 0 ≤ x18 then (if x18 < (x16.length : Int) then (if (rd x16 x18) = 0 then (impl_partingOf.l0 k x0 x16 x17 (wrap64 (x18 + 1)) x210000) else (if x210000.length < 17592186044416 then (impl_partingOf.l0 k x0 x16 x17 (wrap64 (x18 + 1)) (x210000 ++ [x18])) else (none))) else (none)) else (none)) else (if (x210000.length : Int) > 10 then (some (([] : List Int), ([] : List Int), ([] : List Int), 3)) else (if 0 ≤ (shl .i64 1 (x210000.length : Int)) then (if (shl .i64 1 (x210000.length : Int) : Int).toNat ≤ 35184372088832 then (impl_partingOf.l1 k x0 (shl .i64 1 (x210000.length : Int)) 1 x210000 (List.replicate (shl .i64 1 (x210000.length : Int) : Int).toNat 0) (List.replicate (shl .i64 1 (x210000.length : Int) : Int).toNat 0)) else (none)) else (none)))
def impl_partingOf.l1 : Nat → List Int → Int → Int → List Int → List Int → List Int → Option (List Int × List Int × List Int × Int)
  | 0, _, _, _, _, _, _ => none
  | k + 1, x0, x7, x8, x210000, x210001, x210002 => if x8 < x7 then ((bits_TrailingZeros.f (IntKind.u64.wrap (x8))).bind fun t220 => (if 0 ≤ (Go.bits .and .i64 x8 (wrap64 (x8 - 1))) then (if (Go.bits .and .i64 x8 (wrap64 (x8 - 1))) < (x210001.length : Int) then (if 0 ≤ t220 then (if t220 < (x210000.length : Int) then (if 0 ≤ (rd x210000 t220) then (if (rd x210000 t220) < (x0.length : Int) then (if 0 ≤ x8 then (if x8 < (x210001.length : Int) then ((some (x210001.set (x8 : Int).toNat (wrap64 ((rd x210001 (Go.bits .and .i64 x8 (wrap64 (x8 - 1)))) + (rd x0 (rd x210000 t220)))) : List Int)).bind fun y224 => (if (wrap64 ((rd x210001 (Go.bits .and .i64 x8 (wrap64 (x8 - 1)))) + (rd x0 (rd x210000 t220)))) = 0 then (if x8 < (x210002.length : Int) then (impl_partingOf.l2 k x0 x7 x8 (Go.bits .and .i64 (wrap64 (x8 - 1)) x8) x210000 y224 (x210002.set (x8 : Int).toNat 1)) else (none)) else (impl_partingOf.l1 k x0 x7 (wrap64 (x8 + 1)) x210000 y224 x210002))) else (none)) else (none)) else (none)) else (none)) else (none)) else (none)) else (none)) else (none))) else (some (x210000, x210001, x210002, 0))
def impl_partingOf.l2 : Nat → List Int → Int → Int → Int → List Int → List Int → List Int → Option (List Int × List Int × List Int × Int)
  | 0, _, _, _, _, _, _, _ => none
  | k + 1, x0, x7, x8, x10, x210000, x210001, x210002 => if x10 > 0 then (if 0 ≤ x10 then (if x10 < (x210001.length : Int) then (if (rd x210001 x10) = 0 then (if 0 ≤ x8 then (if x8 < (x210002.length : Int) then (if 0 ≤ (Go.bits .andNot .i64 x8 x10) then (if (Go.bits .andNot .i64 x8 x10) < (x210002.length : Int) then (impl_partingOf.l2 k x0 x7 x8 (Go.bits .and .i64 (wrap64 (x10 - 1)) x8) x210000 x210001 (x210002.set (x8 : Int).toNat (mx (rd x210002 x8) (wrap64 (1 + (rd x210002 (Go.bits .andNot .i64 x8 x10))))))) else (none)) else (none)) else (none)) else (none)) else (impl_partingOf.l2 k x0 x7 x8 (Go.bits .and .i64 (wrap64 (x10 - 1)) x8) x210000 x210001 x210002)) else (none)) else (none)) else (impl_partingOf.l1 k x0 x7 (wrap64 (x8 + 1)) x210000 x210001 x210002)
end
def impl_partingOf.f (k : Nat) (l0 : List Int) : Option (List Int × List Int × List Int × Int) := (impl_areNets.f k l0).bind fun t208 => (if t208 = true then (impl_partingOf.l0 k l0 l0 (l0.length : Int) 0 ([] : List Int)) else (some (([] : List Int), ([] : List Int), ([] : List Int), 1)))
theorem impl_partingOf.mono_l : ∀ k, (∀ y0 y1 y2 y3 y4, LeO (impl_partingOf.l0 k y0 y1 y2 y3 y4) (impl_partingOf.l0 (k + 1) y0 y1 y2 y3 y4)) ∧ (∀ y0 y1 y2 y3 y4 y5, LeO (impl_partingOf.l1 k y0 y1 y2 y3 y4 y5) (impl_partingOf.l1 (k + 1) y0 y1 y2 y3 y4 y5)) ∧ (∀ y0 y1 y2 y3 y4 y5 y6, LeO (impl_partingOf.l2 k y0 y1 y2 y3 y4 y5 y6) (impl_partingOf.l2 (k + 1) y0 y1 y2 y3 y4 y5 y6))
  | 0 => ⟨fun _ _ _ _ _ r h => by simp [impl_partingOf.l0] at h, fun _ _ _ _ _ _ r h => by simp [impl_partingOf.l1] at h, fun _ _ _ _ _ _ _ r h => by simp [impl_partingOf.l2] at h⟩
  | k + 1 => by
    obtain ⟨ih0, ih1, ih2⟩ := impl_partingOf.mono_l k
    refine ⟨?_, ?_, ?_⟩
    · intro y0 y1 y2 y3 y4
      unfold impl_partingOf.l0
      repeat' first
      | (with_reducible exact ih0 _ _ _ _ _)
      | (with_reducible exact ih1 _ _ _ _ _ _)
      | (with_reducible exact ih2 _ _ _ _ _ _ _)
      | (with_reducible exact impl_areNets.mono _ _)
      | (with_reducible exact LeO.refl _)
      | (with_reducible exact LeO.none _)
      | (with_reducible refine LeO.ite ?_ ?_)
      | (with_reducible refine LeO.bind ?_ (fun _ => ?_))
      | exact ih0 _ _ _ _ _
      | exact ih1 _ _ _ _ _ _
      | exact ih2 _ _ _ _ _ _ _
      | exact impl_areNets.mono _ _
      | exact LeO.none _
      | refine LeO.ite ?_ ?_
      | refine LeO.bind ?_ (fun _ => ?_)
    · intro y0 y1 y2 y3 y4 y5
      unfold impl_partingOf.l1
      repeat' first
      | (with_reducible exact ih0 _ _ _ _ _)
      | (with_reducible exact ih1 _ _ _ _ _ _)
      | (with_reducible exact ih2 _ _ _ _ _ _ _)
      | (with_reducible exact impl_areNets.mono _ _)
      | (with_reducible exact LeO.refl _)
      | (with_reducible exact LeO.none _)
      | (with_reducible refine LeO.ite ?_ ?_)
      | (with_reducible refine LeO.bind ?_ (fun _ => ?_))
      | exact ih0 _ _ _ _ _
      | exact ih1 _ _ _ _ _ _
      | exact ih2 _ _ _ _ _ _ _
      | exact impl_areNets.mono _ _
      | exact LeO.none _
      | refine LeO.ite ?_ ?_
      | refine LeO.bind ?_ (fun _ => ?_)
    · intro y0 y1 y2 y3 y4 y5 y6
      unfold impl_partingOf.l2
      repeat' first
      | (with_reducible exact ih0 _ _ _ _ _)
      | (with_reducible exact ih1 _ _ _ _ _ _)
      | (with_reducible exact ih2 _ _ _ _ _ _ _)
      | (with_reducible exact impl_areNets.mono _ _)
      | (with_reducible exact LeO.refl _)
      | (with_reducible exact LeO.none _)
      | (with_reducible refine LeO.ite ?_ ?_)
      | (with_reducible refine LeO.bind ?_ (fun _ => ?_))
      | exact ih0 _ _ _ _ _
      | exact ih1 _ _ _ _ _ _
      | exact ih2 _ _ _ _ _ _ _
      | exact impl_areNets.mono _ _
      | exact LeO.none _
      | refine LeO.ite ?_ ?_
      | refine LeO.bind ?_ (fun _ => ?_)
theorem impl_partingOf.mono : ∀ a0 k, LeO (impl_partingOf.f k a0) (impl_partingOf.f (k + 1) a0) := by
  intro a0 k
  obtain ⟨ih0, ih1, ih2⟩ := impl_partingOf.mono_l k
  unfold impl_partingOf.f
  repeat' first
      | (with_reducible exact ih0 _ _ _ _ _)
      | (with_reducible exact ih1 _ _ _ _ _ _)
      | (with_reducible exact ih2 _ _ _ _ _ _ _)
      | (with_reducible exact impl_areNets.mono _ _)
      | (with_reducible exact LeO.refl _)
      | (with_reducible exact LeO.none _)
      | (with_reducible refine LeO.ite ?_ ?_)
      | (with_reducible refine LeO.bind ?_ (fun _ => ?_))
      | exact ih0 _ _ _ _ _
      | exact ih1 _ _ _ _ _ _
      | exact ih2 _ _ _ _ _ _ _
      | exact impl_areNets.mono _ _
      | exact LeO.none _
      | refine LeO.ite ?_ ?_
      | refine LeO.bind ?_ (fun _ => ?_)
def impl_partingOf.T19 : Bool × List (List Nat × List Nat) := (true, [([], []), ([0], [0]), ([1], [1]), ([2], [2]), ([], []), ([], []), ([5], [5]), ([6], [6]), ([7], [7]), ([], []), ([], []), ([10], [10]), ([9, 11], [9, 11]), ([8, 12], [8, 12]), ([13], [13]), ([], []), ([], []), ([16], [16]), ([17], [17]), ([18], [18]), ([], []), ([19, 20], [19, 20]), ([21], [21]), ([15, 22], [15, 22]), ([23], [23]), ([14, 24], [14, 24]), ([3, 4, 0, 1, 2, 3, 4, 5, 6, 7, 8, 9, 10, 11, 12, 13, 14, 15, 16, 17, 18, 19, 20, 21, 22, 23, 24, 25], [3, 4]), ([26, 25, 0, 1, 2, 3, 4, 5, 6, 7, 8, 9, 10, 11, 12, 13, 14, 15, 16, 17, 18, 19, 20, 21, 22, 23, 24, 25], [25, 26])])
def impl_partingOf.B19 : List Nat := [0, 1, 3, 7, 0, 0, 32, 96, 224, 0, 0, 1024, 3584, 8160, 16352, 0, 0, 65536, 196608, 458752, 0, 2031616, 4128768, 8355840, 16744448, 33554400, 67108863, 134217727]
theorem impl_partingOf.tab19 : rtab .any (opsOf Tryd.f25 19) = impl_partingOf.T19 := by kernel_rfl
theorem impl_partingOf.bits19 : waitsOk impl_partingOf.T19.2 impl_partingOf.B19 = true := by kernel_rfl
def impl_partingOf.T26 : Bool × List (List Nat × List Nat) := (true, [([], []), ([0], [0]), ([1], [1]), ([2], [2]), ([], []), ([], []), ([5], [5]), ([6], [6]), ([7], [7]), ([], []), ([8, 9], [8, 9]), ([10], [10]), ([], []), ([12], [12]), ([13], [13]), ([14], [14]), ([], []), ([], []), ([16, 17], [16, 17]), ([15, 18], [15, 18]), ([19], [19]), ([20], [20]), ([11, 21], [11, 21]), ([3, 4, 0, 1, 2, 3, 4, 5, 6, 7, 8, 9, 10, 11, 12, 13, 14, 15, 16, 17, 18, 19, 20, 21, 22], [3, 4]), ([23, 22, 0, 1, 2, 3, 4, 5, 6, 7, 8, 9, 10, 11, 12, 13, 14, 15, 16, 17, 18, 19, 20, 21, 22], [22, 23])])
def impl_partingOf.B26 : List Nat := [0, 1, 3, 7, 0, 0, 32, 96, 224, 0, 992, 2016, 0, 4096, 12288, 28672, 0, 0, 196608, 520192, 1044480, 2093056, 4194272, 8388607, 16777215]
theorem impl_partingOf.tab26 : rtab .any (opsOf Tryd.f25 26) = impl_partingOf.T26 := by kernel_rfl
theorem impl_partingOf.bits26 : waitsOk impl_partingOf.T26.2 impl_partingOf.B26 = true := by kernel_rfl
set_option maxHeartbeats 8000000 in
set_option maxRecDepth 100000 in
theorem impl_partingOf.calls (k : Nat) (A0 : Option Addr) (c0 : Nat) (l0 : List Int) (r1 : List Int) (r2 : List Int) (r3 : List Int) (r4 : Int) (w : World) (hr0 : Kd.C (Kd.int .i64) w A0 l0.length l0) (hc0 : l0.length ≤ c0) (hT : Tt.TT w) (h : impl_partingOf.f k l0 = some (r1, r2, r3, r4)) :
    Calls Tryd.prog 25 #[.slice A0 l0.length c0] w fun e w' => ∃ pv_ v0_ v1_ v2_ : Value, e = .returned (.tuple #[pv_, .int .i64 r4]) ∧ Pp w.heap.size w' r4 pv_ v0_ v1_ v2_ ∧ Kd.R (Kd.int .i64) 3 w' w.heap.size (fun k_ => some k_ ≠ (v2_ : Value).ownBlock) v0_ r1 ∧ Kd.R (Kd.int .i64) 2 w' w.heap.size (fun _ => True) v1_ r2 ∧ Kd.R (Kd.int .i64) 3 w' w.heap.size (fun k_ => some k_ ≠ (v0_ : Value).ownBlock) v2_ r3 ∧ Below w.heap.size w w' := by
  have hu46 := Tryd.underlying46
  have HR0 := Aside0.mk hr0
  have HC0 := Aside0.mk hc0
  clear hr0 hc0
  have HB := Aside0.mk (Below.refl w.heap.size w)
  have H : ((impl_areNets.f k l0).bind fun t208 => (if t208 = true then (impl_partingOf.l0 k l0 l0 (l0.length : Int) 0 ([] : List Int)) else (some (([] : List Int), ([] : List Int), ([] : List Int), 1)))) = some (r1, r2, r3, r4) := h
  clear h
  replace H := Option.bind_eq_some_iff.mp H
  obtain ⟨t208, A20, H⟩ := H
  replace H : (if t208 = true then (impl_partingOf.l0 k l0 l0 (l0.length : Int) 0 ([] : List Int)) else (some (([] : List Int), ([] : List Int), ([] : List Int), 1))) = some (r1, r2, r3, r4) := H
  have A2 := Aside0.mk A20
  clear A20
  by_cases c3 : t208 = true
  · subst c3
    have H1 : (impl_partingOf.l0 k l0 l0 (l0.length : Int) 0 ([] : List Int)) = some (r1, r2, r3, r4) := by rw [if_pos rfl] at H; exact H
    clear H
    have H := H1
    clear H1
    have H' := Aside0.mk H
    clear H
    go_enter Tryd.func25, Tryd.ntmps25
    go_wp2_with (first | ((with_reducible refine gate_callee (f := 36) rfl ?_); refine goesL_ (some 12) rfl rfl Tryd.func36 (by kernel_rfl) rfl #[.slice A0 l0.length c0] rfl (by (try simp only [List.map_toArray, List.map_cons, List.map_nil]); first | done | (go_simp; done) | rfl | (simp only [List.length_drop, List.length_take]; rfl)) ?_; (with_reducible refine (impl_areNets.calls k _ _ l0 true _ ?side1 ?side2 A2.out).mono ?_); (case side1 => repeat (first | exact HR0.out | (with_reducible refine Kd.C_alloc ?_ _) | (with_reducible refine Kd.C_drewN ?_ _) | (with_reducible refine Kd.C_drew ?_))); (case side2 => exact HC0.out); rintro e w' ⟨rfl, ⟨nd, rfl⟩⟩; refine ⟨_, rfl, ?_⟩) | ((with_reducible refine gate_dst (N := 15) rfl ?_); refine box_event ?hg (N := 15) ?hd (cs := #[.slice none 0 0, .slice none 0 0, .slice none 0 0]) (t := 46) ?hr ?_; (case hd => rfl); (case hg => rfl); (case hr => first | (go_simp; done) | (go_simp; rfl)); intro gb209 hg w4 hbox hb; have n0_ := Aside0.mk (below_step (by repeat (first | (with_reducible first | exact HB.out | apply below_alloc | apply pw_below_drewN | apply below_drew1) | exact HB.out)) hb); have n1_ := Aside0.mk (hbox); have n2_ := Aside0.mk ((by rw [hg]; exact (below_size (by repeat (first | (with_reducible first | exact HB.out | apply below_alloc | apply pw_below_drewN | apply below_drew1) | exact HB.out))) : w.heap.size ≤ gb209)); have n3_ := Aside0.mk ((by rw [hg]; exact (below_size (by repeat (first | (with_reducible first | exact HB.out | apply below_alloc | apply pw_below_drewN | apply below_drew1) | exact HB.out))) : w.heap.size ≤ gb209)); clear HB; have HB := n0_; have BK209 := n1_; have GW209 := n2_; have GE209 := n3_; clear n0_ n1_ n2_ n3_; clear hb hbox hg))
    go_loopg [18] k (fun kq v18 w' => ∃ (x18_1 : Int) (x210000_1 : List Int) (u210000 : Value), v18 = .int .i64 x18_1 ∧ Aside0 (impl_partingOf.l0 kq l0 l0 (l0.length : Int) x18_1 x210000_1 = some (r1, r2, r3, r4)) ∧ Aside0 (kq ≤ k) ∧ Aside0 (Kd.R (Kd.int .i64) 3 w' w.heap.size (fun _ => True) u210000 x210000_1) ∧ Aside0 (w'.heap[gb209]? = some (.cells #[u210000, (.slice none 0 0), (.slice none 0 0)] 46 (0, 0))) ∧ Aside0 (Below w.heap.size w w'))
    case atStart => exact ⟨(0), (([] : List Int)), (.slice none 0 0), (by first | rfl | (simp; done) | (simp [*]; done)), H', ⟨Nat.le_refl _⟩, ⟨by first | exact Kd.R_nil _ _ _ _ _ | exact Kd.N_nil _ _ _ _ _ | exact Kd.V_nil _ _ _ _ _ | exact Kd.Q_nil _ _ _ _ _ | exact Kd.S_nil _ _ _ _ _⟩, ⟨by (with_reducible repeat (first | refine blk_drewN ?_ _ | refine blk_drew ?_ | refine blk_alloc ?_ _)); exact BK209.out⟩, ⟨by repeat (first | (with_reducible first | exact HB.out | apply below_alloc | apply pw_below_drewN | apply below_drew1 | refine below_set ?_ GE209.out) | exact HB.out)⟩⟩
    case round =>
      clear H'
      try clear c2
      try clear p2
      try clear c3
      obtain ⟨x18_1, x210000_1, u210000, rfl, HA, HK1, HO_210000, BK209, HB⟩ := hrel
      cases gk with
      | zero => exact absurd HA.out (by simp [impl_partingOf.l0])
      | succ k1 =>
        have H := HA.out
        clear HA
        simp only [impl_partingOf.l0] at H
        by_cases c5 : x18_1 < (l0.length : Int)
        · rw [if_pos c5] at H
          have c5b0 : decide (x18_1 < (l0.length : Int)) = true := decide_eq_true c5
          clear c5
          by_cases c6 : 0 ≤ x18_1
          · rw [if_pos c6] at H
            have c6b0 : decide (0 ≤ x18_1) = true := decide_eq_true c6
            clear c6
            by_cases c7 : x18_1 < (l0.length : Int)
            · rw [if_pos c7] at H
              have c7b0 : decide (x18_1 < (l0.length : Int)) = true := decide_eq_true c7
              clear c7
              by_cases c8 : (rd l0 x18_1) = 0
              · rw [if_pos c8] at H
                have c8b0 : ((rd l0 x18_1) == 0) = true := beq_iff_eq.mpr c8
                have c8b1 : ((rd l0 x18_1) != 0) = false := bne_eq_false_iff_eq.mpr c8
                clear c8
                have H' := Aside0.mk H
                clear H
                have p210 : 0 ≤ (x18_1 : Int) := of_decide_eq_true (by first | (with_reducible assumption) | assumption)
                have q210 : x18_1 < (l0.length : Int) := of_decide_eq_true (by first | (with_reducible assumption) | assumption)
                obtain ⟨ad210, e210, hx210_0⟩ := Kd.at_int HR0.out x18_1 p210 q210
                cases e210
                try replace hx210_0 := (HB.out.cell (World.block_lt_of_cell? w _ hx210_0)).trans hx210_0
                replace p210 := eq_true p210
                replace q210 := eq_true q210
                go_wp2
                go_roundg k1
                case measure => have := HK1.out; omega
                case rel => exact ⟨(wrap64 (x18_1 + 1)), (x210000_1), (u210000), (by first | rfl | (simp; done) | (simp [*]; done)), H', ⟨by have := HK1.out; omega⟩, ⟨by (with_reducible repeat (first | apply Kd.R_alloc | apply Kd.R_drewN | apply Kd.R_drew)); exact HO_210000.out⟩, ⟨by (with_reducible repeat (first | refine blk_drewN ?_ _ | refine blk_drew ?_ | refine blk_alloc ?_ _)); exact BK209.out⟩, ⟨by repeat (first | (with_reducible first | exact HB.out | apply below_alloc | apply pw_below_drewN | apply below_drew1 | refine below_set ?_ GE209.out) | exact HB.out)⟩⟩
              · rw [if_neg c8] at H
                have c8b0 : ((rd l0 x18_1) == 0) = false := beq_eq_false_iff_ne.mpr c8
                have c8b1 : ((rd l0 x18_1) != 0) = true := bne_iff_ne.mpr c8
                by_cases c9 : x210000_1.length < 17592186044416
                · rw [if_pos c9] at H
                  have LMc9 := Aside0.mk c9
                  clear c9
                  obtain ⟨y211, hy211⟩ : ∃ y_ : List Int, y_ = (x210000_1 ++ [x18_1]) := ⟨_, rfl⟩
                  replace H : (impl_partingOf.l0 k1 l0 l0 (l0.length : Int) (wrap64 (x18_1 + 1)) y211) = some (r1, r2, r3, r4) := by first | (rw [hy211]; with_reducible exact H) | (have H2_ := (Option.bind_some _ _).symm.trans H; rw [hy211]; with_reducible exact H2_) | (have H2_ := (Option.bind_some _ _).symm.trans H; with_reducible exact H2_) | with_reducible exact H | (rw [hy211]; exact H) | exact H
                  have Ny211 := Aside0.mk hy211
                  clear hy211
                  have H' := Aside0.mk H
                  clear H
                  have p210 : 0 ≤ (x18_1 : Int) := of_decide_eq_true (by first | (with_reducible assumption) | assumption)
                  have q210 : x18_1 < (l0.length : Int) := of_decide_eq_true (by first | (with_reducible assumption) | assumption)
                  obtain ⟨ad210, e210, hx210_0⟩ := Kd.at_int HR0.out x18_1 p210 q210
                  cases e210
                  try replace hx210_0 := (HB.out.cell (World.block_lt_of_cell? w _ hx210_0)).trans hx210_0
                  replace p210 := eq_true p210
                  replace q210 := eq_true q210
                  have hcz10_0 : wr.cell? ⟨gb209, 0, none⟩ = some (u210000) := (blk_cell BK209.out 0).trans rfl
                  have hcz10_1 : wr.cell? ⟨gb209, 1, none⟩ = some (.slice none 0 0) := (blk_cell BK209.out 1).trans rfl
                  have hcz10_2 : wr.cell? ⟨gb209, 2, none⟩ = some (.slice none 0 0) := (blk_cell BK209.out 2).trans rfl
                  have hfz10_0 := blk_frozen BK209.out 0
                  have hfz10_1 := blk_frozen BK209.out 1
                  have hfz10_2 := blk_frozen BK209.out 2
                  go_wp2_with (first | ((with_reducible refine gate_builtin (b := .append) (xs := #[.tmp 29, .tmp 31]) rfl ?_); at_builtin; refine Kd.R_append (Kd.int .i64) (w0 := w) w.heap.size rfl (.tmp 29) (.tmp 31) 44 3 (.int .i64 0) 8 rfl Tryd.underlying44 info3 rfl (by decide) (by omega) u210000 x210000_1 x18_1 [.int .i64 x18_1] (fun _ => True) (fun _ => False) rfl rfl ?aP (fun _ hk => hk.elim) ?aF ?aO ?aB ?aS ?aL ?_; (case aP => exact rfl); (case aB => exact (by repeat (first | (with_reducible first | exact HB.out | apply below_alloc | apply pw_below_drewN | apply below_drew1 | refine below_set ?_ GE209.out) | exact HB.out))); (case aF => exact (fun _ _ => trivial)); (case aO => exact (by (with_reducible repeat (first | apply Kd.R_alloc | apply Kd.R_drewN | apply Kd.R_drew)); exact HO_210000.out)); (case aS => exact (below_size (by repeat (first | (with_reducible first | exact HB.out | apply below_alloc | apply pw_below_drewN | apply below_drew1 | refine below_set ?_ GE209.out) | exact HB.out)))); (case aL => have := LMc9.out; omega); intro v212 w11 ho hb hg hat; rw [← Ny211.out] at ho; have n0_ := Aside0.mk (blk_grown (g := gb209) (o := .cells #[u210000, .slice none 0 0, .slice none 0 0] 46 (0, 0)) (by (with_reducible repeat (first | refine blk_drewN ?_ _ | refine blk_drew ?_ | refine blk_alloc ?_ _)); exact BK209.out) hg (Kd.R_ne HO_210000.out BK209.out (by decide))); have n1_ := Aside0.mk (hb); have n2_ := Aside0.mk (ho); clear BK209; clear HB; clear HO_210000; have BK209 := n0_; have HB := n1_; have HO213 := n2_; clear n0_ n1_ n2_; clear ho hb hg hat; obtain ⟨Ao12, co12, eo12⟩ := Kd.R_slice HO213.out; subst eo12; have hcz13_0 : w11.cell? ⟨gb209, 0, none⟩ = some (u210000) := (blk_cell BK209.out 0).trans rfl; have hcz13_1 : w11.cell? ⟨gb209, 1, none⟩ = some (.slice none 0 0) := (blk_cell BK209.out 1).trans rfl; have hcz13_2 : w11.cell? ⟨gb209, 2, none⟩ = some (.slice none 0 0) := (blk_cell BK209.out 2).trans rfl; have hfz13_0 := blk_frozen BK209.out 0; have hfz13_1 := blk_frozen BK209.out 1; have hfz13_2 := blk_frozen BK209.out 2))
                  go_roundg k1
                  case measure => have := HK1.out; omega
                  case rel => exact ⟨(wrap64 (x18_1 + 1)), (y211), (.slice Ao12 y211.length co12), (by first | rfl | (simp; done) | (simp [*]; done)), H', ⟨by have := HK1.out; omega⟩, ⟨by (with_reducible repeat (first | apply Kd.R_alloc | apply Kd.R_drewN | apply Kd.R_drew)); exact Kd.R_mono (Kd.R_far (p := ⟨gb209, 0, none⟩) (Kd.R_types HO213.out BK209.out (by decide)) (fun _ hk => hk.2) (.slice Ao12 y211.length co12)) (fun _ hk => trivial)⟩, ⟨by (with_reducible repeat (first | refine blk_drewN ?_ _ | refine blk_drew ?_ | refine blk_alloc ?_ _)); refine blk_put (cs := #[u210000, .slice none 0 0, .slice none 0 0]) ?_ 0 _ rfl; (with_reducible repeat (first | refine blk_drewN ?_ _ | refine blk_drew ?_ | refine blk_alloc ?_ _)); exact BK209.out⟩, ⟨by repeat (first | (with_reducible first | exact HB.out | apply below_alloc | apply pw_below_drewN | apply below_drew1 | refine below_set ?_ GE209.out) | exact HB.out)⟩⟩
                · rw [if_neg c9] at H
                  exact absurd H (by simp)
            · rw [if_neg c7] at H
              exact absurd H (by simp)
          · rw [if_neg c6] at H
            exact absurd H (by simp)
        · rw [if_neg c5] at H
          have c5b0 : decide (x18_1 < (l0.length : Int)) = false := decide_eq_false c5
          clear c5
          by_cases c14 : (x210000_1.length : Int) > 10
          · rw [if_pos c14] at H
            have c14b0 : decide (10 < (x210000_1.length : Int)) = true := decide_eq_true c14
            have c14b1 : decide (10 < x210000_1.length) = true := decide_eq_true (by omega)
            clear c14
            simp only [Option.some.injEq, Prod.mk.injEq] at H
            obtain ⟨rfl, rfl, rfl, rfl⟩ := H
            have hcz15_0 : wr.cell? ⟨gb209, 0, none⟩ = some (u210000) := (blk_cell BK209.out 0).trans rfl
            have hcz15_1 : wr.cell? ⟨gb209, 1, none⟩ = some (.slice none 0 0) := (blk_cell BK209.out 1).trans rfl
            have hcz15_2 : wr.cell? ⟨gb209, 2, none⟩ = some (.slice none 0 0) := (blk_cell BK209.out 2).trans rfl
            have hfz15_0 := blk_frozen BK209.out 0
            have hfz15_1 := blk_frozen BK209.out 1
            have hfz15_2 := blk_frozen BK209.out 2
            obtain ⟨Ao16, co16, eo16⟩ := Kd.R_slice HO_210000.out
            subst eo16
            go_wp2
            refine bodyPost_ret (results_list (rs := [.tmp 2, .tmp 3]) rfl (by simp) (.tmp (.tmp .nil))) rfl ?_
            exact ⟨.pointer none, .slice none 0 0, .slice none 0 0, .slice none 0 0, by first | rfl | (simp [errW_none, errW_some] <;> rfl) | (simp [*, errW_none, errW_some] <;> rfl), (fun h_ => absurd h_ (by decide)), by first | exact Kd.R_nil _ _ _ _ _ | exact Kd.N_nil _ _ _ _ _ | exact Kd.V_nil _ _ _ _ _ | exact Kd.Q_nil _ _ _ _ _ | exact Kd.S_nil _ _ _ _ _, by first | exact Kd.R_nil _ _ _ _ _ | exact Kd.N_nil _ _ _ _ _ | exact Kd.V_nil _ _ _ _ _ | exact Kd.Q_nil _ _ _ _ _ | exact Kd.S_nil _ _ _ _ _, by first | exact Kd.R_nil _ _ _ _ _ | exact Kd.N_nil _ _ _ _ _ | exact Kd.V_nil _ _ _ _ _ | exact Kd.Q_nil _ _ _ _ _ | exact Kd.S_nil _ _ _ _ _, by repeat (first | (with_reducible first | exact HB.out | apply below_alloc | apply pw_below_drewN | apply below_drew1 | refine below_set ?_ GE209.out) | exact HB.out)⟩
          · rw [if_neg c14] at H
            have c14b0 : decide (10 < (x210000_1.length : Int)) = false := decide_eq_false c14
            have c14b1 : decide (10 < x210000_1.length) = false := decide_eq_false (by omega)
            clear c14
            obtain ⟨ji17, hji17⟩ : ∃ j_ : Int, (shl .i64 1 (x210000_1.length : Int)) = j_ := ⟨_, rfl⟩
            replace H : (if 0 ≤ (ji17) then (if (ji17 : Int).toNat ≤ 35184372088832 then (impl_partingOf.l1 k1 l0 ji17 1 x210000_1 (List.replicate (ji17 : Int).toNat 0) (List.replicate (ji17 : Int).toNat 0)) else (none)) else (none)) = some (r1, r2, r3, r4) := by first | (rw [hji17] at H; exact H) | (simp only [hji17] at H ⊢; exact H)
            have hji17_ : (IntKind.i64.wrap (1 * 2 ^ min (x210000_1.length : Int).toNat 64)) = ji17 := hji17
            have hji17z : (x210000_1.length : Int) ≤ 64 → (IntKind.i64.wrap (1 * 2 ^ (x210000_1.length : Int).toNat)) = ji17 := shl_small hji17
            have hji17p : (IntKind.i64.wrap (1 * 2 ^ min x210000_1.length 64)) = ji17 := hji17_
            have hji17q : (x210000_1.length : Int) ≤ 64 → (IntKind.i64.wrap (1 * 2 ^ x210000_1.length)) = ji17 := hji17z
            have hji17r : (IntKind.i64.wrap (2 ^ min x210000_1.length 64)) = ji17 := by have h_ := hji17p; rw [Int.one_mul] at h_; exact h_
            have hji17s : (x210000_1.length : Int) ≤ 64 → (IntKind.i64.wrap (2 ^ x210000_1.length)) = ji17 := fun hle_ => by have h_ := hji17q hle_; rw [Int.one_mul] at h_; exact h_
            have hji17u : (IntKind.i64.wrap (2 ^ min (x210000_1.length : Int).toNat 64)) = ji17 := by have h_ := hji17_; rw [Int.one_mul] at h_; exact h_
            have hji17v : (x210000_1.length : Int) ≤ 64 → (IntKind.i64.wrap (2 ^ (x210000_1.length : Int).toNat)) = ji17 := fun hle_ => by have h_ := hji17z hle_; rw [Int.one_mul] at h_; exact h_
            have hji17y : (wrap64 (1 * 2 ^ min (x210000_1.length : Int).toNat 64)) = ji17 := (i64_w _).symm.trans hji17_
            have hji17x : (x210000_1.length : Int) ≤ 64 → (wrap64 (1 * 2 ^ (x210000_1.length : Int).toNat)) = ji17 := fun h_ => (i64_w _).symm.trans (hji17z h_)
            by_cases c18 : 0 ≤ (ji17)
            · rw [if_pos c18] at H
              have c18b0 := eq_true c18
              have c18b1 : decide (0 ≤ (ji17)) = true := decide_eq_true c18
              clear c18
              by_cases c19 : (ji17 : Int).toNat ≤ 35184372088832
              · rw [if_pos c19] at H
                have c19b0 := eq_true c19
                have c19b1 : decide ((ji17 : Int).toNat ≤ 35184372088832) = true := decide_eq_true c19
                clear c19
                obtain ⟨y214, hy214⟩ : ∃ y_ : List Int, y_ = (List.replicate (ji17 : Int).toNat 0) := ⟨_, rfl⟩
                replace H : (impl_partingOf.l1 k1 l0 ji17 1 x210000_1 y214 (List.replicate (ji17 : Int).toNat 0)) = some (r1, r2, r3, r4) := by first | (rw [hy214]; with_reducible exact H) | (have H2_ := (Option.bind_some _ _).symm.trans H; rw [hy214]; with_reducible exact H2_) | (have H2_ := (Option.bind_some _ _).symm.trans H; with_reducible exact H2_) | with_reducible exact H | (rw [hy214]; exact H) | exact H
                have Ny214 := Aside0.mk hy214
                clear hy214
                obtain ⟨y217, hy217⟩ : ∃ y_ : List Int, y_ = (List.replicate (ji17 : Int).toNat 0) := ⟨_, rfl⟩
                replace H : (impl_partingOf.l1 k1 l0 ji17 1 x210000_1 y214 y217) = some (r1, r2, r3, r4) := by first | (rw [hy217]; with_reducible exact H) | (have H2_ := (Option.bind_some _ _).symm.trans H; rw [hy217]; with_reducible exact H2_) | (have H2_ := (Option.bind_some _ _).symm.trans H; with_reducible exact H2_) | with_reducible exact H | (rw [hy217]; exact H) | exact H
                have Ny217 := Aside0.mk hy217
                clear hy217
                have H' := Aside0.mk H
                clear H
                have hcz20_0 : wr.cell? ⟨gb209, 0, none⟩ = some (u210000) := (blk_cell BK209.out 0).trans rfl
                have hcz20_1 : wr.cell? ⟨gb209, 1, none⟩ = some (.slice none 0 0) := (blk_cell BK209.out 1).trans rfl
                have hcz20_2 : wr.cell? ⟨gb209, 2, none⟩ = some (.slice none 0 0) := (blk_cell BK209.out 2).trans rfl
                have hfz20_0 := blk_frozen BK209.out 0
                have hfz20_1 := blk_frozen BK209.out 1
                have hfz20_2 := blk_frozen BK209.out 2
                obtain ⟨Ao21, co21, eo21⟩ := Kd.R_slice HO_210000.out
                subst eo21
                go_wp2_with (first | ((with_reducible refine gate_dst (N := 50) rfl ?_); refine Kd.R_make (Kd.int .i64) _ 2 rfl (N := 50) rfl 22 _ _ rfl ji17 rfl rfl Tryd.underlying22 (.int .i64 0) 8 info2 rfl (by decide) (by omega) 0 (ok := fun _ => True) (okp := fun _ => True) rfl (fun _ hk => hk) trivial (of_decide_eq_true (by first | (with_reducible assumption) | assumption)) (Nat.le_trans (Nat.mul_le_mul_right _ (of_decide_eq_true (by first | (with_reducible assumption) | assumption) : ji17.toNat ≤ 35184372088832)) (by omega)) (Below.refl _ _) (Nat.le_refl _) ?_; intro v215 w22 ho23 hb hg_ hnew_; clear hg_ hnew_; (first | rw [← Ny214.out] at ho23 | (simp only [Int.reduceToNat] at ho23; rw [← Ny214.out] at ho23)); have n0_ := Aside0.mk (Kd.R_below (by (with_reducible repeat (first | apply Kd.R_alloc | apply Kd.R_drewN | apply Kd.R_drew)); exact HO_210000.out) hb); have n1_ := Aside0.mk (Kd.R_lower ho23 (below_size (by repeat (first | (with_reducible first | exact HB.out | apply below_alloc | apply pw_below_drewN | apply below_drew1 | refine below_set ?_ GE209.out) | exact HB.out)))); have n2_ := Aside0.mk (blk_below (g := gb209) (o := .cells #[.slice Ao21 x210000_1.length co21, .slice none 0 0, .slice none 0 0] 46 (0, 0)) (by (with_reducible repeat (first | refine blk_drewN ?_ _ | refine blk_drew ?_ | refine blk_alloc ?_ _)); exact BK209.out) hb); have n3_ := Aside0.mk (below_step (by repeat (first | (with_reducible first | exact HB.out | apply below_alloc | apply pw_below_drewN | apply below_drew1 | refine below_set ?_ GE209.out) | exact HB.out)) hb); clear HO_210000; clear BK209; clear HB; have HO_210000 := n0_; have HO216 := n1_; have BK209 := n2_; have HB := n3_; clear n0_ n1_ n2_ n3_; clear hb ho23; obtain ⟨Ao24, co24, eo24⟩ := Kd.R_slice HO216.out; subst eo24; have hcz25_0 : w22.cell? ⟨gb209, 0, none⟩ = some (.slice Ao21 x210000_1.length co21) := (blk_cell BK209.out 0).trans rfl; have hcz25_1 : w22.cell? ⟨gb209, 1, none⟩ = some (.slice none 0 0) := (blk_cell BK209.out 1).trans rfl; have hcz25_2 : w22.cell? ⟨gb209, 2, none⟩ = some (.slice none 0 0) := (blk_cell BK209.out 2).trans rfl; have hfz25_0 := blk_frozen BK209.out 0; have hfz25_1 := blk_frozen BK209.out 1; have hfz25_2 := blk_frozen BK209.out 2) | ((with_reducible refine gate_dst (N := 55) rfl ?_); refine Kd.R_make (Kd.int .i64) _ 3 rfl (N := 55) rfl 44 _ _ rfl ji17 rfl rfl Tryd.underlying44 (.int .i64 0) 8 info3 rfl (by decide) (by omega) 0 (ok := fun _ => True) (okp := fun _ => True) rfl (fun _ hk => hk) trivial (of_decide_eq_true (by first | (with_reducible assumption) | assumption)) (Nat.le_trans (Nat.mul_le_mul_right _ (of_decide_eq_true (by first | (with_reducible assumption) | assumption) : ji17.toNat ≤ 35184372088832)) (by omega)) (Below.refl _ _) (Nat.le_refl _) ?_; intro v218 w26 ho27 hb hg_ hnew_; clear hg_ hnew_; (first | rw [← Ny217.out] at ho27 | (simp only [Int.reduceToNat] at ho27; rw [← Ny217.out] at ho27)); have n0_ := Aside0.mk (Kd.R_elder' (by (with_reducible repeat (first | apply Kd.R_alloc | apply Kd.R_drewN | apply Kd.R_drew)); exact (Kd.R_mono (Kd.R_far (p := ⟨gb209, 1, none⟩) (Kd.R_types HO_210000.out BK209.out (by decide)) (fun _ hk => hk.2) (.slice Ao24 y214.length co24)) (fun _ h_ => h_.1))) (Kd.R_base ho27) hb); have n1_ := Aside0.mk (Kd.R_below (by (with_reducible repeat (first | apply Kd.R_alloc | apply Kd.R_drewN | apply Kd.R_drew)); exact (Kd.R_mono (Kd.R_far (p := ⟨gb209, 1, none⟩) (Kd.R_types HO216.out BK209.out (by decide)) (fun _ hk => hk.2) (.slice Ao24 y214.length co24)) (fun _ h_ => h_.1))) hb); have n2_ := Aside0.mk (Kd.R_lower (Kd.R_new' ho27 (Kd.R_lt (by (with_reducible repeat (first | apply Kd.R_alloc | apply Kd.R_drewN | apply Kd.R_drew)); exact (Kd.R_mono (Kd.R_far (p := ⟨gb209, 1, none⟩) (Kd.R_types HO_210000.out BK209.out (by decide)) (fun _ hk => hk.2) (.slice Ao24 y214.length co24)) (fun _ h_ => h_.1))))) (below_size (by repeat (first | (with_reducible first | exact HB.out | apply below_alloc | apply pw_below_drewN | apply below_drew1 | refine below_set ?_ GE209.out) | exact HB.out)))); have n3_ := Aside0.mk (blk_below (g := gb209) (o := .cells #[.slice Ao21 x210000_1.length co21, .slice Ao24 y214.length co24, .slice none 0 0] 46 (0, 0)) (by (with_reducible repeat (first | refine blk_drewN ?_ _ | refine blk_drew ?_ | refine blk_alloc ?_ _)); refine blk_put (cs := #[.slice Ao21 x210000_1.length co21, .slice none 0 0, .slice none 0 0]) ?_ 1 _ rfl; (with_reducible repeat (first | refine blk_drewN ?_ _ | refine blk_drew ?_ | refine blk_alloc ?_ _)); exact BK209.out) hb); have n4_ := Aside0.mk (below_step (by repeat (first | (with_reducible first | exact HB.out | apply below_alloc | apply pw_below_drewN | apply below_drew1 | refine below_set ?_ GE209.out) | exact HB.out)) hb); clear HO_210000; clear HO216; clear BK209; clear HB; have HO_210000 := n0_; have HO216 := n1_; have HO219 := n2_; have BK209 := n3_; have HB := n4_; clear n0_ n1_ n2_ n3_ n4_; clear hb ho27; obtain ⟨Ao28, co28, eo28⟩ := Kd.R_slice HO219.out; subst eo28; have hcz29_0 : w26.cell? ⟨gb209, 0, none⟩ = some (.slice Ao21 x210000_1.length co21) := (blk_cell BK209.out 0).trans rfl; have hcz29_1 : w26.cell? ⟨gb209, 1, none⟩ = some (.slice Ao24 y214.length co24) := (blk_cell BK209.out 1).trans rfl; have hcz29_2 : w26.cell? ⟨gb209, 2, none⟩ = some (.slice none 0 0) := (blk_cell BK209.out 2).trans rfl; have hfz29_0 := blk_frozen BK209.out 0; have hfz29_1 := blk_frozen BK209.out 1; have hfz29_2 := blk_frozen BK209.out 2))
                go_loopg [8] k1 (fun kq v8 w' => ∃ (x8_2 : Int) (x210000_2 : List Int) (x210001_2 : List Int) (x210002_2 : List Int) (u210000 : Value) (u210001 : Value) (u210002 : Value), v8 = .int .i64 x8_2 ∧ Aside0 (impl_partingOf.l1 kq l0 ji17 x8_2 x210000_2 x210001_2 x210002_2 = some (r1, r2, r3, r4)) ∧ Aside0 (kq ≤ k1) ∧ Aside0 (Kd.R (Kd.int .i64) 3 w' w.heap.size (fun k_ => some k_ ≠ (u210002 : Value).ownBlock) u210000 x210000_2) ∧ Aside0 (Kd.R (Kd.int .i64) 2 w' w.heap.size (fun _ => True) u210001 x210001_2) ∧ Aside0 (Kd.R (Kd.int .i64) 3 w' w.heap.size (fun k_ => some k_ ≠ (u210000 : Value).ownBlock) u210002 x210002_2) ∧ Aside0 (w'.heap[gb209]? = some (.cells #[u210000, u210001, u210002] 46 (0, 0))) ∧ Aside0 (Below w.heap.size w w'))
                case atStart => exact ⟨(1), (x210000_1), (y214), (y217), (.slice Ao21 x210000_1.length co21), (.slice Ao24 y214.length co24), (.slice Ao28 y217.length co28), (by first | rfl | (simp; done) | (simp [*]; done)), H', ⟨Nat.le_refl _⟩, ⟨by (with_reducible repeat (first | apply Kd.R_alloc | apply Kd.R_drewN | apply Kd.R_drew)); exact Kd.R_mono (Kd.R_far (p := ⟨gb209, 2, none⟩) (Kd.R_types HO_210000.out BK209.out (by decide)) (fun _ hk => hk.2) (.slice Ao28 y217.length co28)) (fun _ hk => hk.1.2)⟩, ⟨by (with_reducible repeat (first | apply Kd.R_alloc | apply Kd.R_drewN | apply Kd.R_drew)); exact Kd.R_mono (Kd.R_far (p := ⟨gb209, 2, none⟩) (Kd.R_types HO216.out BK209.out (by decide)) (fun _ hk => hk.2) (.slice Ao28 y217.length co28)) (fun _ hk => trivial)⟩, ⟨by (with_reducible repeat (first | apply Kd.R_alloc | apply Kd.R_drewN | apply Kd.R_drew)); exact Kd.R_mono (Kd.R_far (p := ⟨gb209, 2, none⟩) (Kd.R_types HO219.out BK209.out (by decide)) (fun _ hk => hk.2) (.slice Ao28 y217.length co28)) (fun _ hk => hk.1.2)⟩, ⟨by (with_reducible repeat (first | refine blk_drewN ?_ _ | refine blk_drew ?_ | refine blk_alloc ?_ _)); refine blk_put (cs := #[.slice Ao21 x210000_1.length co21, .slice Ao24 y214.length co24, .slice none 0 0]) ?_ 2 _ rfl; (with_reducible repeat (first | refine blk_drewN ?_ _ | refine blk_drew ?_ | refine blk_alloc ?_ _)); exact BK209.out⟩, ⟨by repeat (first | (with_reducible first | exact HB.out | apply below_alloc | apply pw_below_drewN | apply below_drew1 | refine below_set ?_ GE209.out) | exact HB.out)⟩⟩
                case round =>
                  clear H'
                  try clear c1
                  try clear c2
                  try clear p2
                  try clear q2
                  try clear hx2
                  try clear c3
                  try clear c5
                  try clear c5b0
                  try clear c6
                  try clear c6b0
                  try clear p6
                  try clear c7
                  try clear c7b0
                  try clear c8
                  try clear c8b0
                  try clear c8b1
                  try clear c9
                  try clear c14
                  try clear c14b0
                  try clear c14b1
                  try clear c18
                  try clear c18b0
                  try clear c18b1
                  try clear c19
                  try clear c19b0
                  try clear c19b1
                  try clear p21
                  try clear q21
                  try clear hx21
                  try clear c25
                  try clear hcz10_0
                  try clear hcz10_1
                  try clear hcz10_2
                  try clear hcz13_0
                  try clear hcz13_1
                  try clear hcz13_2
                  try clear hcz15_0
                  try clear hcz15_1
                  try clear hcz15_2
                  try clear hcz20_0
                  try clear hcz20_1
                  try clear hcz20_2
                  try clear hcz25_0
                  try clear hcz25_1
                  try clear hcz25_2
                  try clear hcz29_0
                  try clear hcz29_1
                  try clear hcz29_2
                  try clear hfz10_0
                  try clear hfz10_1
                  try clear hfz10_2
                  try clear hfz13_0
                  try clear hfz13_1
                  try clear hfz13_2
                  try clear hfz15_0
                  try clear hfz15_1
                  try clear hfz15_2
                  try clear hfz20_0
                  try clear hfz20_1
                  try clear hfz20_2
                  try clear hfz25_0
                  try clear hfz25_1
                  try clear hfz25_2
                  try clear hfz29_0
                  try clear hfz29_1
                  try clear hfz29_2
                  try clear hx210_0
                  try clear p2
                  try clear p210
                  try clear q210
                  obtain ⟨x8_2, x210000_2, x210001_2, x210002_2, u210000, u210001, u210002, rfl, HA, HK2, HO_210000, HO_210001, HO_210002, BK209, HB⟩ := hrel
                  cases gk with
                  | zero => exact absurd HA.out (by simp [impl_partingOf.l1])
                  | succ k2 =>
                    have H := HA.out
                    clear HA
                    simp only [impl_partingOf.l1] at H
                    by_cases c30 : x8_2 < ji17
                    · rw [if_pos c30] at H
                      have c30b0 : decide (x8_2 < ji17) = true := decide_eq_true c30
                      clear c30
                      replace H := Option.bind_eq_some_iff.mp H
                      obtain ⟨t220, A310, H⟩ := H
                      replace H : (if 0 ≤ (Go.bits .and .i64 x8_2 (wrap64 (x8_2 - 1))) then (if (Go.bits .and .i64 x8_2 (wrap64 (x8_2 - 1))) < (x210001_2.length : Int) then (if 0 ≤ t220 then (if t220 < (x210000_2.length : Int) then (if 0 ≤ (rd x210000_2 t220) then (if (rd x210000_2 t220) < (l0.length : Int) then (if 0 ≤ x8_2 then (if x8_2 < (x210001_2.length : Int) then ((some (x210001_2.set (x8_2 : Int).toNat (wrap64 ((rd x210001_2 (Go.bits .and .i64 x8_2 (wrap64 (x8_2 - 1)))) + (rd l0 (rd x210000_2 t220)))) : List Int)).bind fun y224 => (if (wrap64 ((rd x210001_2 (Go.bits .and .i64 x8_2 (wrap64 (x8_2 - 1)))) + (rd l0 (rd x210000_2 t220)))) = 0 then (if x8_2 < (x210002_2.length : Int) then (impl_partingOf.l2 k2 l0 ji17 x8_2 (Go.bits .and .i64 (wrap64 (x8_2 - 1)) x8_2) x210000_2 y224 (x210002_2.set (x8_2 : Int).toNat 1)) else (none)) else (impl_partingOf.l1 k2 l0 ji17 (wrap64 (x8_2 + 1)) x210000_2 y224 x210002_2))) else (none)) else (none)) else (none)) else (none)) else (none)) else (none)) else (none)) else (none)) = some (r1, r2, r3, r4) := H
                      have A31 := Aside0.mk A310
                      clear A310
                      obtain ⟨ji32, hji32⟩ : ∃ j_ : Int, (Go.bits .and .i64 x8_2 (wrap64 (x8_2 - 1))) = j_ := ⟨_, rfl⟩
                      replace H : (if 0 ≤ (ji32) then (if (ji32) < (x210001_2.length : Int) then (if 0 ≤ t220 then (if t220 < (x210000_2.length : Int) then (if 0 ≤ (rd x210000_2 t220) then (if (rd x210000_2 t220) < (l0.length : Int) then (if 0 ≤ x8_2 then (if x8_2 < (x210001_2.length : Int) then ((some (x210001_2.set (x8_2 : Int).toNat (wrap64 ((rd x210001_2 (ji32)) + (rd l0 (rd x210000_2 t220)))) : List Int)).bind fun y224 => (if (wrap64 ((rd x210001_2 (ji32)) + (rd l0 (rd x210000_2 t220)))) = 0 then (if x8_2 < (x210002_2.length : Int) then (impl_partingOf.l2 k2 l0 ji17 x8_2 (Go.bits .and .i64 (wrap64 (x8_2 - 1)) x8_2) x210000_2 y224 (x210002_2.set (x8_2 : Int).toNat 1)) else (none)) else (impl_partingOf.l1 k2 l0 ji17 (wrap64 (x8_2 + 1)) x210000_2 y224 x210002_2))) else (none)) else (none)) else (none)) else (none)) else (none)) else (none)) else (none)) else (none)) = some (r1, r2, r3, r4) := by first | (rw [hji32] at H; exact H) | (simp only [hji32] at H ⊢; exact H)
                      (try rw [hji32] at A31)
                      by_cases c33 : 0 ≤ (ji32)
                      · rw [if_pos c33] at H
                        have c33b0 : decide (0 ≤ (ji32)) = true := decide_eq_true c33
                        clear c33
                        by_cases c34 : (ji32) < (x210001_2.length : Int)
                        · rw [if_pos c34] at H
                          have c34b0 : decide ((ji32) < (x210001_2.length : Int)) = true := decide_eq_true c34
                          clear c34
                          by_cases c35 : 0 ≤ t220
                          · rw [if_pos c35] at H
                            have c35b0 : decide (0 ≤ t220) = true := decide_eq_true c35
                            clear c35
                            by_cases c36 : t220 < (x210000_2.length : Int)
                            · rw [if_pos c36] at H
                              have c36b0 : decide (t220 < (x210000_2.length : Int)) = true := decide_eq_true c36
                              clear c36
                              by_cases c37 : 0 ≤ (rd x210000_2 t220)
                              · rw [if_pos c37] at H
                                have c37b0 : decide (0 ≤ (rd x210000_2 t220)) = true := decide_eq_true c37
                                clear c37
                                by_cases c38 : (rd x210000_2 t220) < (l0.length : Int)
                                · rw [if_pos c38] at H
                                  have c38b0 : decide ((rd x210000_2 t220) < (l0.length : Int)) = true := decide_eq_true c38
                                  clear c38
                                  by_cases c39 : 0 ≤ x8_2
                                  · rw [if_pos c39] at H
                                    have c39b0 : decide (0 ≤ x8_2) = true := decide_eq_true c39
                                    clear c39
                                    by_cases c40 : x8_2 < (x210001_2.length : Int)
                                    · rw [if_pos c40] at H
                                      have c40b0 : decide (x8_2 < (x210001_2.length : Int)) = true := decide_eq_true c40
                                      clear c40
                                      obtain ⟨y224, hy224⟩ : ∃ y_ : List Int, y_ = (x210001_2.set (x8_2 : Int).toNat (wrap64 ((rd x210001_2 (ji32)) + (rd l0 (rd x210000_2 t220))))) := ⟨_, rfl⟩
                                      replace H : (if (wrap64 ((rd x210001_2 (ji32)) + (rd l0 (rd x210000_2 t220)))) = 0 then (if x8_2 < (x210002_2.length : Int) then (impl_partingOf.l2 k2 l0 ji17 x8_2 (Go.bits .and .i64 (wrap64 (x8_2 - 1)) x8_2) x210000_2 y224 (x210002_2.set (x8_2 : Int).toNat 1)) else (none)) else (impl_partingOf.l1 k2 l0 ji17 (wrap64 (x8_2 + 1)) x210000_2 y224 x210002_2)) = some (r1, r2, r3, r4) := by first | (rw [hy224]; with_reducible exact H) | (have H2_ := (Option.bind_some _ _).symm.trans H; rw [hy224]; with_reducible exact H2_) | (have H2_ := (Option.bind_some _ _).symm.trans H; with_reducible exact H2_) | with_reducible exact H | (rw [hy224]; exact H) | exact H
                                      have Ny224 := Aside0.mk hy224
                                      clear hy224
                                      by_cases c43 : (wrap64 ((rd x210001_2 (ji32)) + (rd l0 (rd x210000_2 t220)))) = 0
                                      · rw [if_pos c43] at H
                                        have c43b0 : ((wrap64 ((rd x210001_2 (ji32)) + (rd l0 (rd x210000_2 t220)))) == 0) = true := beq_iff_eq.mpr c43
                                        have c43b1 : ((wrap64 ((rd x210001_2 (ji32)) + (rd l0 (rd x210000_2 t220)))) != 0) = false := bne_eq_false_iff_eq.mpr c43
                                        clear c43
                                        by_cases c44 : x8_2 < (x210002_2.length : Int)
                                        · rw [if_pos c44] at H
                                          have c44b0 : decide (x8_2 < (x210002_2.length : Int)) = true := decide_eq_true c44
                                          clear c44
                                          obtain ⟨y226, hy226⟩ : ∃ y_ : List Int, y_ = (x210002_2.set (x8_2 : Int).toNat 1) := ⟨_, rfl⟩
                                          replace H : (impl_partingOf.l2 k2 l0 ji17 x8_2 (Go.bits .and .i64 (wrap64 (x8_2 - 1)) x8_2) x210000_2 y224 y226) = some (r1, r2, r3, r4) := by first | (rw [hy226]; with_reducible exact H) | (have H2_ := (Option.bind_some _ _).symm.trans H; rw [hy226]; with_reducible exact H2_) | (have H2_ := (Option.bind_some _ _).symm.trans H; with_reducible exact H2_) | with_reducible exact H | (rw [hy226]; exact H) | exact H
                                          have Ny226 := Aside0.mk hy226
                                          clear hy226
                                          have H' := Aside0.mk H
                                          clear H
                                          try go_wp2_with (first | ((with_reducible refine gate_callee (f := 43) rfl ?_); refine goesL_ (some 65) rfl rfl Tryd.func43 (by kernel_rfl) rfl #[.int .u64 (IntKind.u64.wrap (x8_2))] rfl (by (try simp only [List.map_toArray, List.map_cons, List.map_nil]); first | done | (go_simp; done) | rfl | (simp only [List.length_drop, List.length_take]; rfl)) ?_; (with_reducible refine (bits_TrailingZeros.calls (IntKind.u64.wrap (x8_2)) t220 _ ?side1 A31.out).mono ?_); (case side1 => first | exact hT | exact Tt.TT_on hT (by repeat (first | (with_reducible first | exact HB.out | apply below_alloc | apply pw_below_drewN | apply below_drew1 | refine below_set ?_ GE209.out) | exact HB.out))); rintro e w46 ⟨rfl, hb⟩; refine ⟨_, rfl, ?_⟩; have n0_ := Aside0.mk (Kd.R_below (by (with_reducible repeat (first | apply Kd.R_alloc | apply Kd.R_drewN | apply Kd.R_drew)); exact HO_210000.out) hb); have n1_ := Aside0.mk (Kd.R_below (by (with_reducible repeat (first | apply Kd.R_alloc | apply Kd.R_drewN | apply Kd.R_drew)); exact HO_210001.out) hb); have n2_ := Aside0.mk (Kd.R_below (by (with_reducible repeat (first | apply Kd.R_alloc | apply Kd.R_drewN | apply Kd.R_drew)); exact HO_210002.out) hb); have n3_ := Aside0.mk (blk_below (g := gb209) (o := .cells #[u210000, u210001, u210002] 46 (0, 0)) (by (with_reducible repeat (first | refine blk_drewN ?_ _ | refine blk_drew ?_ | refine blk_alloc ?_ _)); exact BK209.out) hb); have n4_ := Aside0.mk (below_step (by repeat (first | (with_reducible first | exact HB.out | apply below_alloc | apply pw_below_drewN | apply below_drew1 | refine below_set ?_ GE209.out) | exact HB.out)) hb); clear HO_210000; clear HO_210001; clear HO_210002; clear BK209; clear HB; have HO_210000 := n0_; have HO_210001 := n1_; have HO_210002 := n2_; have BK209 := n3_; have HB := n4_; clear n0_ n1_ n2_ n3_ n4_; (try clear hb); (try clear hb2); (try clear hk); (try clear hi)))
                                          have n0_ := Aside0.mk (Kd.R_drew HO_210000.out)
                                          have n1_ := Aside0.mk (Kd.R_drew HO_210001.out)
                                          have n2_ := Aside0.mk (Kd.R_drew HO_210002.out)
                                          have n3_ := Aside0.mk (blk_drew BK209.out)
                                          have n4_ := Aside0.mk (below_drew1 HB.out)
                                          clear HO_210000
                                          clear HO_210001
                                          clear HO_210002
                                          clear BK209
                                          clear HB
                                          have HO_210000 := n0_
                                          have HO_210001 := n1_
                                          have HO_210002 := n2_
                                          have BK209 := n3_
                                          have HB := n4_
                                          clear n0_ n1_ n2_ n3_ n4_
                                          obtain ⟨Ao48, co48, eo48⟩ := Kd.R_slice HO_210001.out
                                          (first | subst eo48 | (injection eo48 with f1_ f2_ f3_; have f4_ := f1_.symm; have f5_ := f3_.symm; clear f1_ f2_ f3_; subst f4_; subst f5_))
                                          have p221 : 0 ≤ ((ji32) : Int) := of_decide_eq_true (by first | (with_reducible assumption) | assumption)
                                          have q221 : (ji32) < (x210001_2.length : Int) := of_decide_eq_true (by first | (with_reducible assumption) | assumption)
                                          obtain ⟨ad221, e221, hx221_0⟩ := Kd.at_int (Kd.R_reads' HO_210001.out).2.2 (ji32) p221 q221
                                          cases e221
                                          replace p221 := eq_true p221
                                          replace q221 := eq_true q221
                                          obtain ⟨Ao49, co49, eo49⟩ := Kd.R_slice HO_210000.out
                                          (first | subst eo49 | (injection eo49 with f1_ f2_ f3_; have f4_ := f1_.symm; have f5_ := f3_.symm; clear f1_ f2_ f3_; subst f4_; subst f5_))
                                          have p222 : 0 ≤ (t220 : Int) := of_decide_eq_true (by first | (with_reducible assumption) | assumption)
                                          have q222 : t220 < (x210000_2.length : Int) := of_decide_eq_true (by first | (with_reducible assumption) | assumption)
                                          obtain ⟨ad222, e222, hx222_0⟩ := Kd.at_int (Kd.R_reads' HO_210000.out).2.2 t220 p222 q222
                                          cases e222
                                          replace p222 := eq_true p222
                                          replace q222 := eq_true q222
                                          have p223 : 0 ≤ ((rd x210000_2 t220) : Int) := of_decide_eq_true (by first | (with_reducible assumption) | assumption)
                                          have q223 : (rd x210000_2 t220) < (l0.length : Int) := of_decide_eq_true (by first | (with_reducible assumption) | assumption)
                                          obtain ⟨ad223, e223, hx223_0⟩ := Kd.at_int HR0.out (rd x210000_2 t220) p223 q223
                                          have hw223_0 := hx223_0
                                          cases e223
                                          try replace hx223_0 := (HB.out.cell (World.block_lt_of_cell? w _ hx223_0)).trans hx223_0
                                          replace p223 := eq_true p223
                                          replace q223 := eq_true q223
                                          have p41 : 0 ≤ (x8_2 : Int) := of_decide_eq_true (by first | (with_reducible assumption) | assumption)
                                          have q41 : (x8_2 : Int) < ((x210001_2.length : Int) : Int) := of_decide_eq_true (by first | (with_reducible assumption) | assumption)
                                          obtain ⟨go41, co41, eo41, gb41, gl41, cl41, HG41⟩ := Kd.R_form HO_210001.out (by omega)
                                          (first | cases eo41 | (injection eo41 with ea_ en_ ec_; (first | subst ea_ | (injection ea_ with ea_; subst ea_)); subst ec_; clear en_))
                                          have GB41 := Aside0.mk gb41
                                          have GG41 := Aside0.mk HG41
                                          clear gb41 gl41 HG41
                                          (first | simp only [add_plain] at hx221_0 | skip)
                                          obtain ⟨hx41_0, hf41_0⟩ := Kd.R_celln 0 HO_210001.out (x8_2 : Int) p41 q41
                                          replace p41 := eq_true p41
                                          replace q41 := eq_true q41
                                          have HP50 := Kd.R_putn HO_210001.out (x8_2 : Int) (wrap64 ((rd x210001_2 (ji32)) + (rd l0 (rd x210000_2 t220))))
                                          rw [← Ny224.out] at HP50
                                          have HQ50 := Aside0.mk HP50
                                          clear HP50
                                          refine start_ (n := 28) (S := fun w' => w'.cell? ⟨gb209, 0, none⟩ = some (.slice (some ad222) x210000_2.length co49) ∧ w'.cell? ⟨gb209, 1, none⟩ = some (.slice (some ⟨go41, 0, none⟩) x210001_2.length co48) ∧ w'.cell? ⟨gb209, 2, none⟩ = some (u210002) ∧ w'.cell? ⟨go41, ((ji32)).toNat, none⟩ = some (.int .i64 (rd x210001_2 (ji32))) ∧ w'.cell? (ad222.add (t220).toNat) = some (.int .i64 (rd x210000_2 t220)) ∧ w'.cell? (ad223.add ((rd x210000_2 t220)).toNat) = some (.int .i64 (rd l0 (rd x210000_2 t220)))) (ds := [27]) #[false, false, false, false, false, false, false, false, false, false, false, false, false, false, false, false, false, false, false, false, false, false, false, false, false, false, false, false] (by kernel_rfl) rfl rfl ⟨(blk_cell BK209.out 0).trans rfl, (blk_cell BK209.out 1).trans rfl, (blk_cell BK209.out 2).trans rfl, hx221_0, hx222_0, ((HB.out.cell (World.block_lt_of_cell? _ _ hw223_0)).trans hw223_0)⟩ (fun hHeld => ?_); refine with_tabW impl_partingOf.tab19 impl_partingOf.bits19 (fun HT_ HW_ => ?_)
                                          generalize w46.drew = w47 at HO_210000 HO_210001 HO_210002 BK209 HB GG41 HQ50 hf41_0 hx221_0 hx222_0 hx223_0 hx41_0 hHeld ⊢
                                          refine pure_ (i := 0) (N := some 66) (v := ?_) (a' := ?_) #[true, false, false, false, false, false, false, false, false, false, false, false, false, false, false, false, false, false, false, false, false, false, false, false, false, false, false, false] rfl rfl (any_of HT_.out (by kernel_rfl)) (fun _ _ _ h => h) (Or.inl ⟨by rfl, ?_⟩) ?_ ?_
                                          rotate_left
                                          · intro w'
                                            go_simp
                                            with_reducible rfl
                                          rotate_left
                                          · simp only [Act.put, List.setIfInBounds_toArray, List.set_cons_zero, List.set_cons_succ, i64_w, i32_w]
                                            rfl
                                          refine pure_ (i := 1) (N := some 67) (v := ?_) (a' := ?_) #[true, true, false, false, false, false, false, false, false, false, false, false, false, false, false, false, false, false, false, false, false, false, false, false, false, false, false, false] rfl rfl (any_of HT_.out (by kernel_rfl)) (fun _ _ _ h => h) (Or.inl ⟨by rfl, ?_⟩) ?_ ?_
                                          rotate_left
                                          · intro w'
                                            go_simp
                                            with_reducible rfl
                                          rotate_left
                                          · simp only [Act.put, List.setIfInBounds_toArray, List.set_cons_zero, List.set_cons_succ, i64_w, i32_w]
                                            rfl
                                          refine pure_ (i := 2) (N := some 68) (v := ?_) (a' := ?_) #[true, true, true, false, false, false, false, false, false, false, false, false, false, false, false, false, false, false, false, false, false, false, false, false, false, false, false, false] rfl rfl (any_of HT_.out (by kernel_rfl)) (fun _ _ _ h => h) (Or.inl ⟨by rfl, ?_⟩) ?_ ?_
                                          rotate_left
                                          · intro w'
                                            go_simp
                                            with_reducible rfl
                                          rotate_left
                                          · simp only [Act.put, List.setIfInBounds_toArray, List.set_cons_zero, List.set_cons_succ, i64_w, i32_w]
                                            rfl
                                          refine pure_ (i := 4) (N := some 70) (v := ?_) (a' := ?_) #[true, true, true, false, true, false, false, false, false, false, false, false, false, false, false, false, false, false, false, false, false, false, false, false, false, false, false, false] rfl rfl (any_of HT_.out (by kernel_rfl)) (fun _ _ _ h => h) (Or.inl ⟨by rfl, ?_⟩) ?_ ?_
                                          rotate_left
                                          · intro w'
                                            go_simp
                                            with_reducible rfl
                                          rotate_left
                                          · simp only [Act.put, List.setIfInBounds_toArray, List.set_cons_zero, List.set_cons_succ, i64_w, i32_w]
                                            rfl
                                          refine pure_ (i := 5) (N := some 71) (v := ?_) (a' := ?_) #[true, true, true, false, true, true, false, false, false, false, false, false, false, false, false, false, false, false, false, false, false, false, false, false, false, false, false, false] rfl rfl (any_of HT_.out (by kernel_rfl)) (fun _ _ _ h => h) (Or.inl ⟨by rfl, ?_⟩) ?_ ?_
                                          rotate_left
                                          · intro w'
                                            go_simp
                                            with_reducible rfl
                                          rotate_left
                                          · simp only [Act.put, List.setIfInBounds_toArray, List.set_cons_zero, List.set_cons_succ, i64_w, i32_w]
                                            rfl
                                          refine pure_ (i := 6) (N := some 72) (v := ?_) (a' := ?_) #[true, true, true, false, true, true, true, false, false, false, false, false, false, false, false, false, false, false, false, false, false, false, false, false, false, false, false, false] rfl rfl (any_of HT_.out (by kernel_rfl)) (fun _ _ _ h => h) (Or.inl ⟨by rfl, ?_⟩) ?_ ?_
                                          rotate_left
                                          · intro w'
                                            go_simp
                                            with_reducible rfl
                                          rotate_left
                                          · simp only [Act.put, List.setIfInBounds_toArray, List.set_cons_zero, List.set_cons_succ, i64_w, i32_w]
                                            rfl
                                          refine pure_ (i := 7) (N := some 73) (v := ?_) (a' := ?_) #[true, true, true, false, true, true, true, true, false, false, false, false, false, false, false, false, false, false, false, false, false, false, false, false, false, false, false, false] rfl rfl (any_of HT_.out (by kernel_rfl)) (fun _ _ _ h => h) (Or.inl ⟨by rfl, ?_⟩) ?_ ?_
                                          rotate_left
                                          · intro w'
                                            go_simp
                                            with_reducible rfl
                                          rotate_left
                                          · simp only [Act.put, List.setIfInBounds_toArray, List.set_cons_zero, List.set_cons_succ, i64_w, i32_w]
                                            rfl
                                          refine pure_ (i := 9) (N := some 75) (v := ?_) (a' := ?_) #[true, true, true, false, true, true, true, true, false, true, false, false, false, false, false, false, false, false, false, false, false, false, false, false, false, false, false, false] rfl rfl (any_of HT_.out (by kernel_rfl)) (fun _ _ _ h => h) (Or.inl ⟨by rfl, ?_⟩) ?_ ?_
                                          rotate_left
                                          · intro w'
                                            go_simp
                                            with_reducible rfl
                                          rotate_left
                                          · simp only [Act.put, List.setIfInBounds_toArray, List.set_cons_zero, List.set_cons_succ, i64_w, i32_w]
                                            rfl
                                          refine pure_ (i := 10) (N := some 76) (v := ?_) (a' := ?_) #[true, true, true, false, true, true, true, true, false, true, true, false, false, false, false, false, false, false, false, false, false, false, false, false, false, false, false, false] rfl rfl (any_of HT_.out (by kernel_rfl)) (fun _ _ _ h => h) (Or.inl ⟨by rfl, ?_⟩) ?_ ?_
                                          rotate_left
                                          · intro w'
                                            go_simp
                                            with_reducible rfl
                                          rotate_left
                                          · simp only [Act.put, List.setIfInBounds_toArray, List.set_cons_zero, List.set_cons_succ, i64_w, i32_w]
                                            rfl
                                          refine pure_ (i := 11) (N := some 77) (v := ?_) (a' := ?_) #[true, true, true, false, true, true, true, true, false, true, true, true, false, false, false, false, false, false, false, false, false, false, false, false, false, false, false, false] rfl rfl (any_of HT_.out (by kernel_rfl)) (fun _ _ _ h => h) (Or.inl ⟨by rfl, ?_⟩) ?_ ?_
                                          rotate_left
                                          · intro w'
                                            go_simp
                                            with_reducible rfl
                                          rotate_left
                                          · simp only [Act.put, List.setIfInBounds_toArray, List.set_cons_zero, List.set_cons_succ, i64_w, i32_w]
                                            rfl
                                          refine pure_ (i := 12) (N := some 78) (v := ?_) (a' := ?_) #[true, true, true, false, true, true, true, true, false, true, true, true, true, false, false, false, false, false, false, false, false, false, false, false, false, false, false, false] rfl rfl (any_of HT_.out (by kernel_rfl)) (fun _ _ _ h => h) (Or.inl ⟨by rfl, ?_⟩) ?_ ?_
                                          rotate_left
                                          · intro w'
                                            go_simp
                                            with_reducible rfl
                                          rotate_left
                                          · simp only [Act.put, List.setIfInBounds_toArray, List.set_cons_zero, List.set_cons_succ, i64_w, i32_w]
                                            rfl
                                          refine pure_ (i := 15) (N := some 81) (v := ?_) (a' := ?_) #[true, true, true, false, true, true, true, true, false, true, true, true, true, false, false, true, false, false, false, false, false, false, false, false, false, false, false, false] rfl rfl (any_of HT_.out (by kernel_rfl)) (fun _ _ _ h => h) (Or.inl ⟨by rfl, ?_⟩) ?_ ?_
                                          rotate_left
                                          · intro w'
                                            go_simp
                                            with_reducible rfl
                                          rotate_left
                                          · simp only [Act.put, List.setIfInBounds_toArray, List.set_cons_zero, List.set_cons_succ, i64_w, i32_w]
                                            rfl
                                          refine pure_ (i := 16) (N := some 82) (v := ?_) (a' := ?_) #[true, true, true, false, true, true, true, true, false, true, true, true, true, false, false, true, true, false, false, false, false, false, false, false, false, false, false, false] rfl rfl (any_of HT_.out (by kernel_rfl)) (fun _ _ _ h => h) (Or.inl ⟨by rfl, ?_⟩) ?_ ?_
                                          rotate_left
                                          · intro w'
                                            go_simp
                                            with_reducible rfl
                                          rotate_left
                                          · simp only [Act.put, List.setIfInBounds_toArray, List.set_cons_zero, List.set_cons_succ, i64_w, i32_w]
                                            rfl
                                          refine pure_ (i := 17) (N := some 83) (v := ?_) (a' := ?_) #[true, true, true, false, true, true, true, true, false, true, true, true, true, false, false, true, true, true, false, false, false, false, false, false, false, false, false, false] rfl rfl (any_of HT_.out (by kernel_rfl)) (fun _ _ _ h => h) (Or.inl ⟨by rfl, ?_⟩) ?_ ?_
                                          rotate_left
                                          · intro w'
                                            go_simp
                                            with_reducible rfl
                                          rotate_left
                                          · simp only [Act.put, List.setIfInBounds_toArray, List.set_cons_zero, List.set_cons_succ, i64_w, i32_w]
                                            rfl
                                          refine pure_ (i := 18) (N := some 84) (v := ?_) (a' := ?_) #[true, true, true, false, true, true, true, true, false, true, true, true, true, false, false, true, true, true, true, false, false, false, false, false, false, false, false, false] rfl rfl (any_of HT_.out (by kernel_rfl)) (fun _ _ _ h => h) (Or.inl ⟨by rfl, ?_⟩) ?_ ?_
                                          rotate_left
                                          · intro w'
                                            go_simp
                                            with_reducible rfl
                                          rotate_left
                                          · simp only [Act.put, List.setIfInBounds_toArray, List.set_cons_zero, List.set_cons_succ, i64_w, i32_w]
                                            rfl
                                          refine pure_ (i := 20) (N := some 86) (v := ?_) (a' := ?_) #[true, true, true, false, true, true, true, true, false, true, true, true, true, false, false, true, true, true, true, false, true, false, false, false, false, false, false, false] rfl rfl (any_of HT_.out (by kernel_rfl)) (fun _ _ _ h => h) (Or.inl ⟨by rfl, ?_⟩) ?_ ?_
                                          rotate_left
                                          · intro w'
                                            go_simp
                                            with_reducible rfl
                                          rotate_left
                                          · simp only [Act.put, List.setIfInBounds_toArray, List.set_cons_zero, List.set_cons_succ, i64_w, i32_w]
                                            rfl
                                          refine take_ (i := 3) (N := some 69) (v := ?_) (a' := ?_) #[true, true, true, true, true, true, true, true, false, true, true, true, true, false, false, true, true, true, true, false, true, false, false, false, false, false, false, false] rfl rfl (take_ofW HT_.out HW_.out (by kernel_rfl)) (fun _ _ _ h => h) (Or.inl ⟨by rfl, ?_⟩) hHeld ?_ ?_
                                          rotate_left
                                          · rintro w' ⟨s0, s1, s2, s3, s4, s5⟩
                                            go_simp
                                            with_reducible rfl
                                          rotate_left
                                          · simp only [Act.put, List.setIfInBounds_toArray, List.set_cons_zero, List.set_cons_succ, i64_w, i32_w]
                                            rfl
                                          refine take_ (i := 8) (N := some 74) (v := ?_) (a' := ?_) #[true, true, true, true, true, true, true, true, true, true, true, true, true, false, false, true, true, true, true, false, true, false, false, false, false, false, false, false] rfl rfl (take_ofW HT_.out HW_.out (by kernel_rfl)) (fun _ _ _ h => h) (Or.inl ⟨by rfl, ?_⟩) hHeld ?_ ?_
                                          rotate_left
                                          · rintro w' ⟨s0, s1, s2, s3, s4, s5⟩
                                            go_simp
                                            with_reducible rfl
                                          rotate_left
                                          · simp only [Act.put, List.setIfInBounds_toArray, List.set_cons_zero, List.set_cons_succ, i64_w, i32_w]
                                            rfl
                                          refine pure_ (i := 13) (N := some 79) (v := ?_) (a' := ?_) #[true, true, true, true, true, true, true, true, true, true, true, true, true, true, false, true, true, true, true, false, true, false, false, false, false, false, false, false] rfl rfl (any_of HT_.out (by kernel_rfl)) (fun _ _ _ h => h) (Or.inl ⟨by rfl, ?_⟩) ?_ ?_
                                          rotate_left
                                          · intro w'
                                            go_simp
                                            with_reducible rfl
                                          rotate_left
                                          · simp only [Act.put, List.setIfInBounds_toArray, List.set_cons_zero, List.set_cons_succ, i64_w, i32_w]
                                            rfl
                                          refine take_ (i := 14) (N := some 80) (v := ?_) (a' := ?_) #[true, true, true, true, true, true, true, true, true, true, true, true, true, true, true, true, true, true, true, false, true, false, false, false, false, false, false, false] rfl rfl (take_ofW HT_.out HW_.out (by kernel_rfl)) (fun _ _ _ h => h) (Or.inl ⟨by rfl, ?_⟩) hHeld ?_ ?_
                                          rotate_left
                                          · rintro w' ⟨s0, s1, s2, s3, s4, s5⟩
                                            go_simp
                                            with_reducible rfl
                                          rotate_left
                                          · simp only [Act.put, List.setIfInBounds_toArray, List.set_cons_zero, List.set_cons_succ, i64_w, i32_w]
                                            rfl
                                          refine take_ (i := 19) (N := some 85) (v := ?_) (a' := ?_) #[true, true, true, true, true, true, true, true, true, true, true, true, true, true, true, true, true, true, true, true, true, false, false, false, false, false, false, false] rfl rfl (take_ofW HT_.out HW_.out (by kernel_rfl)) (fun _ _ _ h => h) (Or.inl ⟨by rfl, ?_⟩) hHeld ?_ ?_
                                          rotate_left
                                          · rintro w' ⟨s0, s1, s2, s3, s4, s5⟩
                                            go_simp
                                            with_reducible rfl
                                          rotate_left
                                          · simp only [Act.put, List.setIfInBounds_toArray, List.set_cons_zero, List.set_cons_succ, i64_w, i32_w]
                                            rfl
                                          refine pure_ (i := 21) (N := some 87) (v := ?_) (a' := ?_) #[true, true, true, true, true, true, true, true, true, true, true, true, true, true, true, true, true, true, true, true, true, true, false, false, false, false, false, false] rfl rfl (any_of HT_.out (by kernel_rfl)) (fun _ _ _ h => h) (Or.inl ⟨by rfl, ?_⟩) ?_ ?_
                                          rotate_left
                                          · intro w'
                                            go_simp
                                            with_reducible rfl
                                          rotate_left
                                          · simp only [Act.put, List.setIfInBounds_toArray, List.set_cons_zero, List.set_cons_succ, i64_w, i32_w]
                                            rfl
                                          refine take_ (i := 22) (N := some 88) (v := ?_) (a' := ?_) #[true, true, true, true, true, true, true, true, true, true, true, true, true, true, true, true, true, true, true, true, true, true, true, false, false, false, false, false] rfl rfl (take_ofW HT_.out HW_.out (by kernel_rfl)) (fun _ _ _ h => h) (Or.inl ⟨by rfl, ?_⟩) hHeld ?_ ?_
                                          rotate_left
                                          · rintro w' ⟨s0, s1, s2, s3, s4, s5⟩
                                            go_simp
                                            with_reducible rfl
                                          rotate_left
                                          · simp only [Act.put, List.setIfInBounds_toArray, List.set_cons_zero, List.set_cons_succ, i64_w, i32_w]
                                            rfl
                                          refine pure_ (i := 23) (N := some 89) (v := ?_) (a' := ?_) #[true, true, true, true, true, true, true, true, true, true, true, true, true, true, true, true, true, true, true, true, true, true, true, true, false, false, false, false] rfl rfl (any_of HT_.out (by kernel_rfl)) (fun _ _ _ h => h) (Or.inl ⟨by rfl, ?_⟩) ?_ ?_
                                          rotate_left
                                          · intro w'
                                            go_simp
                                            with_reducible rfl
                                          rotate_left
                                          · simp only [Act.put, List.setIfInBounds_toArray, List.set_cons_zero, List.set_cons_succ, i64_w, i32_w]
                                            rfl
                                          refine take_ (i := 24) (N := some 90) (v := ?_) (a' := ?_) #[true, true, true, true, true, true, true, true, true, true, true, true, true, true, true, true, true, true, true, true, true, true, true, true, true, false, false, false] rfl rfl (take_ofW HT_.out HW_.out (by kernel_rfl)) (fun _ _ _ h => h) (Or.inl ⟨by rfl, ?_⟩) hHeld ?_ ?_
                                          rotate_left
                                          · rintro w' ⟨s0, s1, s2, s3, s4, s5⟩
                                            go_simp
                                            with_reducible rfl
                                          rotate_left
                                          · simp only [Act.put, List.setIfInBounds_toArray, List.set_cons_zero, List.set_cons_succ, i64_w, i32_w]
                                            rfl
                                          refine pure_ (i := 25) (N := some 91) (v := ?_) (a' := ?_) #[true, true, true, true, true, true, true, true, true, true, true, true, true, true, true, true, true, true, true, true, true, true, true, true, true, true, false, false] rfl rfl (any_of HT_.out (by kernel_rfl)) (fun _ _ _ h => h) (Or.inl ⟨by rfl, ?_⟩) ?_ ?_
                                          rotate_left
                                          · intro w'
                                            go_simp
                                            with_reducible rfl
                                          rotate_left
                                          · simp only [Act.put, List.setIfInBounds_toArray, List.set_cons_zero, List.set_cons_succ, i64_w, i32_w]
                                            rfl
                                          refine pure_ (i := 26) (N := some 92) (v := ?_) (a' := ?_) #[true, true, true, true, true, true, true, true, true, true, true, true, true, true, true, true, true, true, true, true, true, true, true, true, true, true, true, false] rfl rfl (any_of HT_.out (by kernel_rfl)) (fun _ _ _ h => h) (Or.inl ⟨by rfl, ?_⟩) ?_ ?_
                                          rotate_left
                                          · intro w'
                                            go_simp
                                            with_reducible rfl
                                          rotate_left
                                          · simp only [Act.put, List.setIfInBounds_toArray, List.set_cons_zero, List.set_cons_succ, i64_w, i32_w]
                                            rfl
                                          refine last_ (i := 27) (N := none) #[true, true, true, true, true, true, true, true, true, true, true, true, true, true, true, true, true, true, true, true, true, true, true, true, true, true, true, true] rfl rfl (one_of HT_.out (by kernel_rfl)) (by decide) (fun K hK => ?_)
                                          refine skip_ (w1 := ?_) (by rfl) rfl ?_ ?_
                                          rotate_left
                                          · go_simp
                                            rfl
                                          refine hK.out _ _ ?_
                                          clear hK K
                                          refine done_ (done_of HT_.out (by kernel_rfl)) ?_
                                          have n0_ : Aside0 (Kd.R (Kd.int .i64) 3 (w47.setCell ⟨go41, (x8_2 : Int).toNat, none⟩ (.int .i64 (wrap64 ((rd x210001_2 (ji32)) + (rd l0 (rd x210000_2 t220)))))) w.heap.size (fun k_ => some k_ ≠ (u210002 : Value).ownBlock) (.slice (some ad222) x210000_2.length co49) x210000_2) := ⟨by (with_reducible repeat (first | apply Kd.R_alloc | apply Kd.R_drewN | apply Kd.R_drew)); exact Kd.R_mono (Kd.R_far (p := ⟨go41, (x8_2 : Int).toNat, none⟩) (Arr.types_of HO_210000.out HO_210001.out (by decide)) (fun _ hk => hk.2) (.int .i64 (wrap64 ((rd x210001_2 (ji32)) + (rd l0 (rd x210000_2 t220)))))) (fun _ hk => hk.1)⟩
                                          have n1_ : Aside0 (Kd.R (Kd.int .i64) 2 (w47.setCell ⟨go41, (x8_2 : Int).toNat, none⟩ (.int .i64 (wrap64 ((rd x210001_2 (ji32)) + (rd l0 (rd x210000_2 t220)))))) w.heap.size (fun _ => True) (.slice (some ⟨go41, 0, none⟩) x210001_2.length co48) y224) := ⟨by (with_reducible repeat (first | apply Kd.R_alloc | apply Kd.R_drewN | apply Kd.R_drew)); exact HQ50.out⟩
                                          have n2_ : Aside0 (Kd.R (Kd.int .i64) 3 (w47.setCell ⟨go41, (x8_2 : Int).toNat, none⟩ (.int .i64 (wrap64 ((rd x210001_2 (ji32)) + (rd l0 (rd x210000_2 t220)))))) w.heap.size (fun k_ => some k_ ≠ (.slice (some ad222) x210000_2.length co49 : Value).ownBlock) u210002 x210002_2) := ⟨by (with_reducible repeat (first | apply Kd.R_alloc | apply Kd.R_drewN | apply Kd.R_drew)); exact Kd.R_mono (Kd.R_far (p := ⟨go41, (x8_2 : Int).toNat, none⟩) (Arr.types_of HO_210002.out HO_210001.out (by decide)) (fun _ hk => hk.2) (.int .i64 (wrap64 ((rd x210001_2 (ji32)) + (rd l0 (rd x210000_2 t220)))))) (fun _ hk => hk.1)⟩
                                          have n3_ : Aside0 ((w47.setCell ⟨go41, (x8_2 : Int).toNat, none⟩ (.int .i64 (wrap64 ((rd x210001_2 (ji32)) + (rd l0 (rd x210000_2 t220)))))).heap[gb209]? = some (.cells #[.slice (some ad222) x210000_2.length co49, .slice (some ⟨go41, 0, none⟩) x210001_2.length co48, u210002] 46 (0, 0))) := ⟨by (with_reducible repeat (first | refine blk_drewN ?_ _ | refine blk_drew ?_ | refine blk_alloc ?_ _)); refine blk_far ?_ (by have h_ := Kd.R_ne HO_210001.out BK209.out (by decide); intro e_; exact h_ (by rw [e_]; rfl)) _; (with_reducible repeat (first | refine blk_drewN ?_ _ | refine blk_drew ?_ | refine blk_alloc ?_ _)); exact BK209.out⟩
                                          have n4_ : Aside0 (Below w.heap.size w (w47.setCell ⟨go41, (x8_2 : Int).toNat, none⟩ (.int .i64 (wrap64 ((rd x210001_2 (ji32)) + (rd l0 (rd x210000_2 t220))))))) := ⟨by repeat (first | (with_reducible first | exact HB.out | apply below_alloc | apply pw_below_drewN | apply below_drew1 | refine below_set ?_ GB41.out | refine below_set ?_ GE209.out) | exact HB.out)⟩
                                          (try clear HO_210000)
                                          (try clear HO_210001)
                                          (try clear HO_210002)
                                          (try clear BK209)
                                          (try clear HB)
                                          generalize (w47.setCell ⟨go41, (x8_2 : Int).toNat, none⟩ (.int .i64 (wrap64 ((rd x210001_2 (ji32)) + (rd l0 (rd x210000_2 t220)))))) = w51 at n0_ n1_ n2_ n3_ n4_ ⊢
                                          have HO_210000 := n0_
                                          have HO_210001 := n1_
                                          have HO_210002 := n2_
                                          have BK209 := n3_
                                          have HB := n4_
                                          clear n0_ n1_ n2_ n3_ n4_
                                          have hcz52_0 : w51.cell? ⟨gb209, 0, none⟩ = some (.slice (some ad222) x210000_2.length co49) := (blk_cell BK209.out 0).trans rfl
                                          have hcz52_1 : w51.cell? ⟨gb209, 1, none⟩ = some (.slice (some ⟨go41, 0, none⟩) x210001_2.length co48) := (blk_cell BK209.out 1).trans rfl
                                          have hcz52_2 : w51.cell? ⟨gb209, 2, none⟩ = some (u210002) := (blk_cell BK209.out 2).trans rfl
                                          have hfz52_0 := blk_frozen BK209.out 0
                                          have hfz52_1 := blk_frozen BK209.out 1
                                          have hfz52_2 := blk_frozen BK209.out 2
                                          have p42 : 0 ≤ (x8_2 : Int) := of_decide_eq_true (by first | (with_reducible assumption) | assumption)
                                          have q42 : (x8_2 : Int) < ((x210001_2.length : Int) : Int) := of_decide_eq_true (by first | (with_reducible assumption) | assumption)
                                          have hx42_0 : w51.cell? ⟨go41, (x8_2 : Int).toNat, none⟩ = some (.int .i64 (wrap64 ((rd x210001_2 (ji32)) + (rd l0 (rd x210000_2 t220))))) := by
                                            have h_ := (Kd.R_celln 0 HO_210001.out (x8_2 : Int) p42 q42).1
                                            exact h_.trans (congrArg (fun z => some (Value.int .i64 z)) (show rd y224 x8_2 = (wrap64 ((rd x210001_2 (ji32)) + (rd l0 (rd x210000_2 t220)))) from by rw [Ny224.out]; show (List.set _ _ _).getD _ 0 = _; rw [List.getD_eq_getElem?_getD, List.getElem?_set_self (by omega)]; rfl))
                                          replace p42 := eq_true p42
                                          replace q42 := eq_true q42
                                          have p45 : 0 ≤ (x8_2 : Int) := of_decide_eq_true (by first | (with_reducible assumption) | assumption)
                                          have q45 : (x8_2 : Int) < ((x210002_2.length : Int) : Int) := of_decide_eq_true (by first | (with_reducible assumption) | assumption)
                                          obtain ⟨go45, co45, eo45, gb45, gl45, cl45, HG45⟩ := Kd.R_form HO_210002.out (by omega)
                                          (first | cases eo45 | (injection eo45 with ea_ en_ ec_; (first | subst ea_ | (injection ea_ with ea_; subst ea_)); subst ec_; clear en_))
                                          have GB45 := Aside0.mk gb45
                                          have GG45 := Aside0.mk HG45
                                          clear gb45 gl45 HG45
                                          obtain ⟨hx45_0, hf45_0⟩ := Kd.R_celln 0 HO_210002.out (x8_2 : Int) p45 q45
                                          replace p45 := eq_true p45
                                          replace q45 := eq_true q45
                                          obtain ⟨hy53_, hz53_⟩ := Kd.R_celln 0 HO_210002.out (x8_2 : Int) (of_decide_eq_true (by first | (with_reducible assumption) | assumption)) (of_decide_eq_true (by first | (with_reducible assumption) | assumption))
                                          have HP53 := Kd.R_putg HO_210002.out (x8_2 : Int) 1
                                          try go_wp2_with (first | ((with_reducible refine gate_store (t := 3) (p := 106) rfl ?_); refine store_event (t := 3) (p := 106) (v := ?vo_w54) (w1 := (w51.setCell ⟨go45, (x8_2 : Int).toNat, none⟩ (.int .i64 1))) ?hg ?ho ?hn ?hr ?_; (case ho => rfl); (case hg => rfl); (case hn => rfl); (case hr => first | (go_simp; done) | (go_simp; rfl)); intro w54 hw; have hg : w51.grownBy w54 (some go45) := (by rw [hw]; exact HP53.2); have hp_ : Kd.R (Kd.int .i64) 3 w54 w.heap.size (fun k_ => some k_ ≠ (.slice (some ad222) x210000_2.length co49 : Value).ownBlock) (.slice (some ⟨go45, 0, none⟩) x210002_2.length co45) y226 := (by rw [hw, Ny226.out]; exact HP53.1); clear HP53; have n0_ := Aside0.mk (Kd.R_after (v := (.slice (some ⟨go45, 0, none⟩) x210002_2.length co45)) (v1 := (.slice (some ⟨go45, 0, none⟩) x210002_2.length co45)) (ok := (fun _ => True)) (by (with_reducible repeat (first | apply Kd.R_alloc | apply Kd.R_drewN | apply Kd.R_drew)); exact Kd.R_mono HO_210000.out (fun _ hk => ⟨trivial, hk⟩)) hg (.inl rfl)); have n1_ := Aside0.mk (Kd.R_over' (v := (.slice (some ⟨go45, 0, none⟩) x210002_2.length co45)) (by (with_reducible repeat (first | apply Kd.R_alloc | apply Kd.R_drewN | apply Kd.R_drew)); exact HO_210001.out) (Kd.R_typed HO_210002.out) (by decide) hg); have n2_ := Aside0.mk (hp_); have n3_ := Aside0.mk (blk_grown (g := gb209) (o := .cells #[.slice (some ad222) x210000_2.length co49, .slice (some ⟨go41, 0, none⟩) x210001_2.length co48, .slice (some ⟨go45, 0, none⟩) x210002_2.length co45] 46 (0, 0)) (by (with_reducible repeat (first | refine blk_drewN ?_ _ | refine blk_drew ?_ | refine blk_alloc ?_ _)); exact BK209.out) hg (Kd.R_ne HO_210002.out BK209.out (by decide))); have n4_ := Aside0.mk ((by rw [hw]; exact below_set (HB.out) GB45.out : Below w.heap.size w w54)); clear HO_210000; clear HO_210001; clear HO_210002; clear BK209; clear HB; have HO_210000 := n0_; have HO_210001 := n1_; have HO_210002 := n2_; have BK209 := n3_; have HB := n4_; clear n0_ n1_ n2_ n3_ n4_; clear hg hw hp_))
                                          go_loopg [10] k2 (fun kq v10 w' => ∃ (x10_3 : Int) (x210000_3 : List Int) (x210002_3 : List Int) (u210000 : Value) (u210002 : Value), v10 = .int .i64 x10_3 ∧ Aside0 (impl_partingOf.l2 kq l0 ji17 x8_2 x10_3 x210000_3 y224 x210002_3 = some (r1, r2, r3, r4)) ∧ Aside0 (kq ≤ k2) ∧ Aside0 (Kd.R (Kd.int .i64) 3 w' w.heap.size (fun k_ => some k_ ≠ (u210002 : Value).ownBlock) u210000 x210000_3) ∧ Aside0 (Kd.R (Kd.int .i64) 2 w' w.heap.size (fun _ => True) (.slice (some ⟨go41, 0, none⟩) x210001_2.length co48) y224) ∧ Aside0 (Kd.R (Kd.int .i64) 3 w' w.heap.size (fun k_ => some k_ ≠ (u210000 : Value).ownBlock) u210002 x210002_3) ∧ Aside0 (w'.heap[gb209]? = some (.cells #[u210000, (.slice (some ⟨go41, 0, none⟩) x210001_2.length co48), u210002] 46 (0, 0))) ∧ Aside0 (Below w.heap.size w w'))
                                          case atStart => exact ⟨(Go.bits .and .i64 (wrap64 (x8_2 - 1)) x8_2), (x210000_2), (y226), (.slice (some ad222) x210000_2.length co49), (.slice (some ⟨go45, 0, none⟩) x210002_2.length co45), (by first | rfl | (simp; done) | (simp [*]; done)), H', ⟨Nat.le_refl _⟩, ⟨by (with_reducible repeat (first | apply Kd.R_alloc | apply Kd.R_drewN | apply Kd.R_drew)); exact Kd.R_mono HO_210000.out (fun _ hk => hk.2)⟩, ⟨by (with_reducible repeat (first | apply Kd.R_alloc | apply Kd.R_drewN | apply Kd.R_drew)); exact HO_210001.out⟩, ⟨by (with_reducible repeat (first | apply Kd.R_alloc | apply Kd.R_drewN | apply Kd.R_drew)); exact HO_210002.out⟩, ⟨by (with_reducible repeat (first | refine blk_drewN ?_ _ | refine blk_drew ?_ | refine blk_alloc ?_ _)); exact BK209.out⟩, ⟨by repeat (first | (with_reducible first | exact HB.out | apply below_alloc | apply pw_below_drewN | apply below_drew1 | refine below_set ?_ GE209.out) | exact HB.out)⟩⟩
                                          case round =>
                                            clear H'
                                            try clear c1
                                            try clear c2
                                            try clear p2
                                            try clear q2
                                            try clear hx2
                                            try clear c3
                                            try clear c4
                                            try clear p4
                                            try clear q4
                                            try clear hx4
                                            try clear hf4
                                            try clear c5
                                            try clear c5b0
                                            try clear c6
                                            try clear c6b0
                                            try clear p6
                                            try clear c7
                                            try clear c7b0
                                            try clear c8
                                            try clear c8b0
                                            try clear c8b1
                                            try clear c9
                                            try clear c14
                                            try clear c14b0
                                            try clear c14b1
                                            try clear c18
                                            try clear c18b0
                                            try clear c18b1
                                            try clear c19
                                            try clear c19b0
                                            try clear c19b1
                                            try clear p21
                                            try clear q21
                                            try clear hx21
                                            try clear p22
                                            try clear q22
                                            try clear hx22
                                            try clear c25
                                            try clear c30
                                            try clear c30b0
                                            try clear c33
                                            try clear c33b0
                                            try clear c34
                                            try clear c34b0
                                            try clear c35
                                            try clear c35b0
                                            try clear c36
                                            try clear c36b0
                                            try clear c37
                                            try clear c37b0
                                            try clear c38
                                            try clear c38b0
                                            try clear c39
                                            try clear c39b0
                                            try clear c40
                                            try clear c40b0
                                            try clear p41
                                            try clear q41
                                            try clear hx41
                                            try clear hf41
                                            try clear p42
                                            try clear q42
                                            try clear c43
                                            try clear c43b0
                                            try clear c43b1
                                            try clear c44
                                            try clear c44b0
                                            try clear p45
                                            try clear q45
                                            try clear hx45
                                            try clear hf45
                                            try clear hcz10_0
                                            try clear hcz10_1
                                            try clear hcz10_2
                                            try clear hcz13_0
                                            try clear hcz13_1
                                            try clear hcz13_2
                                            try clear hcz15_0
                                            try clear hcz15_1
                                            try clear hcz15_2
                                            try clear hcz20_0
                                            try clear hcz20_1
                                            try clear hcz20_2
                                            try clear hcz25_0
                                            try clear hcz25_1
                                            try clear hcz25_2
                                            try clear hcz29_0
                                            try clear hcz29_1
                                            try clear hcz29_2
                                            try clear hcz52_0
                                            try clear hcz52_1
                                            try clear hcz52_2
                                            try clear hfz10_0
                                            try clear hfz10_1
                                            try clear hfz10_2
                                            try clear hfz13_0
                                            try clear hfz13_1
                                            try clear hfz13_2
                                            try clear hfz15_0
                                            try clear hfz15_1
                                            try clear hfz15_2
                                            try clear hfz20_0
                                            try clear hfz20_1
                                            try clear hfz20_2
                                            try clear hfz25_0
                                            try clear hfz25_1
                                            try clear hfz25_2
                                            try clear hfz29_0
                                            try clear hfz29_1
                                            try clear hfz29_2
                                            try clear hfz52_0
                                            try clear hfz52_1
                                            try clear hfz52_2
                                            try clear hx210_0
                                            try clear hx221_0
                                            try clear hx222_0
                                            try clear hx223_0
                                            try clear hx41_0
                                            try clear hx45_0
                                            try clear p2
                                            try clear p21
                                            try clear p210
                                            try clear p221
                                            try clear p222
                                            try clear p223
                                            try clear p41
                                            try clear p42
                                            try clear p45
                                            try clear p6
                                            try clear q2
                                            try clear q21
                                            try clear q210
                                            try clear q221
                                            try clear q222
                                            try clear q223
                                            try clear q41
                                            try clear q42
                                            try clear q45
                                            obtain ⟨x10_3, x210000_3, x210002_3, u210000, u210002, rfl, HA, HK3, HO_210000, HO_210001, HO_210002, BK209, HB⟩ := hrel
                                            have hl210001_3 := (Kd.R_reads' HO_210001.out).1
                                            rw [hl210001_3] at HO_210001
                                            (try simp only [hl210001_3])
                                            (try simp only [hl210001_3] at BK209)
                                            (try simp only [hl210001_3] at HO_210000)
                                            (try simp only [hl210001_3] at HO_210002)
                                            cases gk with
                                            | zero => exact absurd HA.out (by simp [impl_partingOf.l2])
                                            | succ k3 =>
                                              have H := HA.out
                                              clear HA
                                              simp only [impl_partingOf.l2] at H
                                              by_cases c55 : x10_3 > 0
                                              · rw [if_pos c55] at H
                                                have c55b0 : decide (0 < x10_3) = true := decide_eq_true c55
                                                clear c55
                                                by_cases c56 : 0 ≤ x10_3
                                                · rw [if_pos c56] at H
                                                  have c56b0 : decide (0 ≤ x10_3) = true := decide_eq_true c56
                                                  clear c56
                                                  by_cases c57 : x10_3 < (y224.length : Int)
                                                  · rw [if_pos c57] at H
                                                    have c57b0 : decide (x10_3 < (y224.length : Int)) = true := decide_eq_true c57
                                                    clear c57
                                                    by_cases c58 : (rd y224 x10_3) = 0
                                                    · rw [if_pos c58] at H
                                                      have c58b0 : ((rd y224 x10_3) == 0) = true := beq_iff_eq.mpr c58
                                                      have c58b1 : ((rd y224 x10_3) != 0) = false := bne_eq_false_iff_eq.mpr c58
                                                      clear c58
                                                      by_cases c59 : 0 ≤ x8_2
                                                      · rw [if_pos c59] at H
                                                        have c59b0 : decide (0 ≤ x8_2) = true := decide_eq_true c59
                                                        clear c59
                                                        by_cases c60 : x8_2 < (x210002_3.length : Int)
                                                        · rw [if_pos c60] at H
                                                          have c60b0 : decide (x8_2 < (x210002_3.length : Int)) = true := decide_eq_true c60
                                                          clear c60
                                                          by_cases c61 : 0 ≤ (Go.bits .andNot .i64 x8_2 x10_3)
                                                          · rw [if_pos c61] at H
                                                            have c61b0 : decide (0 ≤ (Go.bits .andNot .i64 x8_2 x10_3)) = true := decide_eq_true c61
                                                            clear c61
                                                            by_cases c62 : (Go.bits .andNot .i64 x8_2 x10_3) < (x210002_3.length : Int)
                                                            · rw [if_pos c62] at H
                                                              have c62b0 : decide ((Go.bits .andNot .i64 x8_2 x10_3) < (x210002_3.length : Int)) = true := decide_eq_true c62
                                                              clear c62
                                                              obtain ⟨ji63, hji63⟩ : ∃ j_ : Int, (mx (rd x210002_3 x8_2) (wrap64 (1 + (rd x210002_3 (Go.bits .andNot .i64 x8_2 x10_3))))) = j_ := ⟨_, rfl⟩
                                                              replace H : (impl_partingOf.l2 k3 l0 ji17 x8_2 (Go.bits .and .i64 (wrap64 (x10_3 - 1)) x8_2) x210000_3 y224 (x210002_3.set (x8_2 : Int).toNat (ji63))) = some (r1, r2, r3, r4) := by first | (rw [hji63] at H; exact H) | (simp only [hji63] at H ⊢; exact H)
                                                              have hji63_ : (if (rd x210002_3 x8_2) < (wrap64 (1 + (rd x210002_3 (Go.bits .andNot .i64 x8_2 x10_3)))) then (wrap64 (1 + (rd x210002_3 (Go.bits .andNot .i64 x8_2 x10_3)))) else (rd x210002_3 x8_2)) = ji63 := hji63
                                                              obtain ⟨y230, hy230⟩ : ∃ y_ : List Int, y_ = (x210002_3.set (x8_2 : Int).toNat (ji63)) := ⟨_, rfl⟩
                                                              replace H : (impl_partingOf.l2 k3 l0 ji17 x8_2 (Go.bits .and .i64 (wrap64 (x10_3 - 1)) x8_2) x210000_3 y224 y230) = some (r1, r2, r3, r4) := by first | (rw [hy230]; with_reducible exact H) | (have H2_ := (Option.bind_some _ _).symm.trans H; rw [hy230]; with_reducible exact H2_) | (have H2_ := (Option.bind_some _ _).symm.trans H; with_reducible exact H2_) | with_reducible exact H | (rw [hy230]; exact H) | exact H
                                                              have Ny230 := Aside0.mk hy230
                                                              clear hy230
                                                              have H' := Aside0.mk H
                                                              clear H
                                                              have hcz65_0 : wr.cell? ⟨gb209, 0, none⟩ = some (u210000) := (blk_cell BK209.out 0).trans rfl
                                                              have hcz65_1 : wr.cell? ⟨gb209, 1, none⟩ = some (.slice (some ⟨go41, 0, none⟩) y224.length co48) := (blk_cell BK209.out 1).trans rfl
                                                              have hcz65_2 : wr.cell? ⟨gb209, 2, none⟩ = some (u210002) := (blk_cell BK209.out 2).trans rfl
                                                              have hfz65_0 := blk_frozen BK209.out 0
                                                              have hfz65_1 := blk_frozen BK209.out 1
                                                              have hfz65_2 := blk_frozen BK209.out 2
                                                              have p227 : 0 ≤ (x10_3 : Int) := of_decide_eq_true (by first | (with_reducible assumption) | assumption)
                                                              have q227 : x10_3 < (y224.length : Int) := of_decide_eq_true (by first | (with_reducible assumption) | assumption)
                                                              obtain ⟨ad227, e227, hx227_0⟩ := Kd.at_int (Kd.R_reads' HO_210001.out).2.2 x10_3 p227 q227
                                                              obtain rfl : (⟨go41, 0, none⟩ : Addr) = ad227 := (by injection e227)
                                                              (first | simp only [add_plain] at hx227_0 | simp only [add_at] at hx227_0 | simp only [Addr.add, Nat.zero_add] at hx227_0 | skip)
                                                              replace p227 := eq_true p227
                                                              replace q227 := eq_true q227
                                                              try go_wp2
                                                              have n0_ := Aside0.mk (Kd.R_drew HO_210000.out)
                                                              have n1_ := Aside0.mk (Kd.R_drew HO_210001.out)
                                                              have n2_ := Aside0.mk (Kd.R_drew HO_210002.out)
                                                              have n3_ := Aside0.mk (blk_drew BK209.out)
                                                              have n4_ := Aside0.mk (below_drew1 HB.out)
                                                              clear HO_210000
                                                              clear HO_210001
                                                              clear HO_210002
                                                              clear BK209
                                                              clear HB
                                                              have HO_210000 := n0_
                                                              have HO_210001 := n1_
                                                              have HO_210002 := n2_
                                                              have BK209 := n3_
                                                              have HB := n4_
                                                              clear n0_ n1_ n2_ n3_ n4_
                                                              obtain ⟨Ao67, co67, eo67⟩ := Kd.R_slice HO_210002.out
                                                              (first | subst eo67 | (injection eo67 with f1_ f2_ f3_; have f4_ := f1_.symm; have f5_ := f3_.symm; clear f1_ f2_ f3_; subst f4_; subst f5_))
                                                              have p228 : 0 ≤ (x8_2 : Int) := of_decide_eq_true (by first | (with_reducible assumption) | assumption)
                                                              have q228 : x8_2 < (x210002_3.length : Int) := of_decide_eq_true (by first | (with_reducible assumption) | assumption)
                                                              obtain ⟨ad228, e228, hx228_0⟩ := Kd.at_int (Kd.R_reads' HO_210002.out).2.2 x8_2 p228 q228
                                                              cases e228
                                                              replace p228 := eq_true p228
                                                              replace q228 := eq_true q228
                                                              have p229 : 0 ≤ ((Go.bits .andNot .i64 x8_2 x10_3) : Int) := of_decide_eq_true (by first | (with_reducible assumption) | assumption)
                                                              have q229 : (Go.bits .andNot .i64 x8_2 x10_3) < (x210002_3.length : Int) := of_decide_eq_true (by first | (with_reducible assumption) | assumption)
                                                              obtain ⟨ad229, e229, hx229_0⟩ := Kd.at_int (Kd.R_reads' HO_210002.out).2.2 (Go.bits .andNot .i64 x8_2 x10_3) p229 q229
                                                              obtain rfl : ad228 = ad229 := (by injection e229)
                                                              replace p229 := eq_true p229
                                                              replace q229 := eq_true q229
                                                              have p64 : 0 ≤ (x8_2 : Int) := of_decide_eq_true (by first | (with_reducible assumption) | assumption)
                                                              have q64 : (x8_2 : Int) < ((x210002_3.length : Int) : Int) := of_decide_eq_true (by first | (with_reducible assumption) | assumption)
                                                              obtain ⟨go64, co64, eo64, gb64, gl64, cl64, HG64⟩ := Kd.R_form HO_210002.out (by omega)
                                                              (first | cases eo64 | (injection eo64 with ea_ en_ ec_; (first | subst ea_ | (injection ea_ with ea_; subst ea_)); subst ec_; clear en_))
                                                              have GB64 := Aside0.mk gb64
                                                              have GG64 := Aside0.mk HG64
                                                              clear gb64 gl64 HG64
                                                              (first | simp only [add_plain] at hx228_0 | skip)
                                                              (first | simp only [add_plain] at hx229_0 | skip)
                                                              obtain ⟨hx64_0, hf64_0⟩ := Kd.R_celln 0 HO_210002.out (x8_2 : Int) p64 q64
                                                              replace p64 := eq_true p64
                                                              replace q64 := eq_true q64
                                                              have HP68 := Kd.R_putn HO_210002.out (x8_2 : Int) ji63
                                                              rw [← Ny230.out] at HP68
                                                              have HQ68 := Aside0.mk HP68
                                                              clear HP68
                                                              refine start_ (n := 25) (S := fun w' => w'.cell? ⟨gb209, 0, none⟩ = some (u210000) ∧ w'.cell? ⟨gb209, 1, none⟩ = some (.slice (some ⟨go41, 0, none⟩) y224.length co48) ∧ w'.cell? ⟨gb209, 2, none⟩ = some (.slice (some ⟨go64, 0, none⟩) x210002_3.length co67) ∧ w'.cell? ⟨go64, (x8_2).toNat, none⟩ = some (.int .i64 (rd x210002_3 x8_2)) ∧ w'.cell? ⟨go64, ((Go.bits .andNot .i64 x8_2 x10_3)).toNat, none⟩ = some (.int .i64 (rd x210002_3 (Go.bits .andNot .i64 x8_2 x10_3)))) (ds := [24]) #[false, false, false, false, false, false, false, false, false, false, false, false, false, false, false, false, false, false, false, false, false, false, false, false, false] (by kernel_rfl) rfl rfl ⟨(blk_cell BK209.out 0).trans rfl, (blk_cell BK209.out 1).trans rfl, (blk_cell BK209.out 2).trans rfl, hx228_0, hx229_0⟩ (fun hHeld => ?_); refine with_tabW impl_partingOf.tab26 impl_partingOf.bits26 (fun HT_ HW_ => ?_)
                                                              generalize wr.drew = w66 at HO_210000 HO_210001 HO_210002 BK209 HB GG64 HQ68 hf64_0 hx228_0 hx229_0 hx64_0 hHeld ⊢
                                                              refine pure_ (i := 0) (N := some 125) (v := ?_) (a' := ?_) #[true, false, false, false, false, false, false, false, false, false, false, false, false, false, false, false, false, false, false, false, false, false, false, false, false] rfl rfl (any_of HT_.out (by kernel_rfl)) (fun _ _ _ h => h) (Or.inl ⟨by rfl, ?_⟩) ?_ ?_
                                                              rotate_left
                                                              · intro w'
                                                                go_simp
                                                                with_reducible rfl
                                                              rotate_left
                                                              · simp only [Act.put, List.setIfInBounds_toArray, List.set_cons_zero, List.set_cons_succ, i64_w, i32_w]
                                                                rfl
                                                              refine pure_ (i := 1) (N := some 126) (v := ?_) (a' := ?_) #[true, true, false, false, false, false, false, false, false, false, false, false, false, false, false, false, false, false, false, false, false, false, false, false, false] rfl rfl (any_of HT_.out (by kernel_rfl)) (fun _ _ _ h => h) (Or.inl ⟨by rfl, ?_⟩) ?_ ?_
                                                              rotate_left
                                                              · intro w'
                                                                go_simp
                                                                with_reducible rfl
                                                              rotate_left
                                                              · simp only [Act.put, List.setIfInBounds_toArray, List.set_cons_zero, List.set_cons_succ, i64_w, i32_w]
                                                                rfl
                                                              refine pure_ (i := 2) (N := some 127) (v := ?_) (a' := ?_) #[true, true, true, false, false, false, false, false, false, false, false, false, false, false, false, false, false, false, false, false, false, false, false, false, false] rfl rfl (any_of HT_.out (by kernel_rfl)) (fun _ _ _ h => h) (Or.inl ⟨by rfl, ?_⟩) ?_ ?_
                                                              rotate_left
                                                              · intro w'
                                                                go_simp
                                                                with_reducible rfl
                                                              rotate_left
                                                              · simp only [Act.put, List.setIfInBounds_toArray, List.set_cons_zero, List.set_cons_succ, i64_w, i32_w]
                                                                rfl
                                                              refine pure_ (i := 4) (N := some 129) (v := ?_) (a' := ?_) #[true, true, true, false, true, false, false, false, false, false, false, false, false, false, false, false, false, false, false, false, false, false, false, false, false] rfl rfl (any_of HT_.out (by kernel_rfl)) (fun _ _ _ h => h) (Or.inl ⟨by rfl, ?_⟩) ?_ ?_
                                                              rotate_left
                                                              · intro w'
                                                                go_simp
                                                                with_reducible rfl
                                                              rotate_left
                                                              · simp only [Act.put, List.setIfInBounds_toArray, List.set_cons_zero, List.set_cons_succ, i64_w, i32_w]
                                                                rfl
                                                              refine pure_ (i := 5) (N := some 130) (v := ?_) (a' := ?_) #[true, true, true, false, true, true, false, false, false, false, false, false, false, false, false, false, false, false, false, false, false, false, false, false, false] rfl rfl (any_of HT_.out (by kernel_rfl)) (fun _ _ _ h => h) (Or.inl ⟨by rfl, ?_⟩) ?_ ?_
                                                              rotate_left
                                                              · intro w'
                                                                go_simp
                                                                with_reducible rfl
                                                              rotate_left
                                                              · simp only [Act.put, List.setIfInBounds_toArray, List.set_cons_zero, List.set_cons_succ, i64_w, i32_w]
                                                                rfl
                                                              refine pure_ (i := 6) (N := some 131) (v := ?_) (a' := ?_) #[true, true, true, false, true, true, true, false, false, false, false, false, false, false, false, false, false, false, false, false, false, false, false, false, false] rfl rfl (any_of HT_.out (by kernel_rfl)) (fun _ _ _ h => h) (Or.inl ⟨by rfl, ?_⟩) ?_ ?_
                                                              rotate_left
                                                              · intro w'
                                                                go_simp
                                                                with_reducible rfl
                                                              rotate_left
                                                              · simp only [Act.put, List.setIfInBounds_toArray, List.set_cons_zero, List.set_cons_succ, i64_w, i32_w]
                                                                rfl
                                                              refine pure_ (i := 7) (N := some 132) (v := ?_) (a' := ?_) #[true, true, true, false, true, true, true, true, false, false, false, false, false, false, false, false, false, false, false, false, false, false, false, false, false] rfl rfl (any_of HT_.out (by kernel_rfl)) (fun _ _ _ h => h) (Or.inl ⟨by rfl, ?_⟩) ?_ ?_
                                                              rotate_left
                                                              · intro w'
                                                                go_simp
                                                                with_reducible rfl
                                                              rotate_left
                                                              · simp only [Act.put, List.setIfInBounds_toArray, List.set_cons_zero, List.set_cons_succ, i64_w, i32_w]
                                                                rfl
                                                              refine pure_ (i := 9) (N := some 134) (v := ?_) (a' := ?_) #[true, true, true, false, true, true, true, true, false, true, false, false, false, false, false, false, false, false, false, false, false, false, false, false, false] rfl rfl (any_of HT_.out (by kernel_rfl)) (fun _ _ _ h => h) (Or.inl ⟨by rfl, ?_⟩) ?_ ?_
                                                              rotate_left
                                                              · intro w'
                                                                go_simp
                                                                with_reducible rfl
                                                              rotate_left
                                                              · simp only [Act.put, List.setIfInBounds_toArray, List.set_cons_zero, List.set_cons_succ, i64_w, i32_w]
                                                                rfl
                                                              refine pure_ (i := 12) (N := some 137) (v := ?_) (a' := ?_) #[true, true, true, false, true, true, true, true, false, true, false, false, true, false, false, false, false, false, false, false, false, false, false, false, false] rfl rfl (any_of HT_.out (by kernel_rfl)) (fun _ _ _ h => h) (Or.inl ⟨by rfl, ?_⟩) ?_ ?_
                                                              rotate_left
                                                              · intro w'
                                                                go_simp
                                                                with_reducible rfl
                                                              rotate_left
                                                              · simp only [Act.put, List.setIfInBounds_toArray, List.set_cons_zero, List.set_cons_succ, i64_w, i32_w]
                                                                rfl
                                                              refine pure_ (i := 13) (N := some 138) (v := ?_) (a' := ?_) #[true, true, true, false, true, true, true, true, false, true, false, false, true, true, false, false, false, false, false, false, false, false, false, false, false] rfl rfl (any_of HT_.out (by kernel_rfl)) (fun _ _ _ h => h) (Or.inl ⟨by rfl, ?_⟩) ?_ ?_
                                                              rotate_left
                                                              · intro w'
                                                                go_simp
                                                                with_reducible rfl
                                                              rotate_left
                                                              · simp only [Act.put, List.setIfInBounds_toArray, List.set_cons_zero, List.set_cons_succ, i64_w, i32_w]
                                                                rfl
                                                              refine pure_ (i := 14) (N := some 139) (v := ?_) (a' := ?_) #[true, true, true, false, true, true, true, true, false, true, false, false, true, true, true, false, false, false, false, false, false, false, false, false, false] rfl rfl (any_of HT_.out (by kernel_rfl)) (fun _ _ _ h => h) (Or.inl ⟨by rfl, ?_⟩) ?_ ?_
                                                              rotate_left
                                                              · intro w'
                                                                go_simp
                                                                with_reducible rfl
                                                              rotate_left
                                                              · simp only [Act.put, List.setIfInBounds_toArray, List.set_cons_zero, List.set_cons_succ, i64_w, i32_w]
                                                                rfl
                                                              refine pure_ (i := 16) (N := some 141) (v := ?_) (a' := ?_) #[true, true, true, false, true, true, true, true, false, true, false, false, true, true, true, false, true, false, false, false, false, false, false, false, false] rfl rfl (any_of HT_.out (by kernel_rfl)) (fun _ _ _ h => h) (Or.inl ⟨by rfl, ?_⟩) ?_ ?_
                                                              rotate_left
                                                              · intro w'
                                                                go_simp
                                                                with_reducible rfl
                                                              rotate_left
                                                              · simp only [Act.put, List.setIfInBounds_toArray, List.set_cons_zero, List.set_cons_succ, i64_w, i32_w]
                                                                rfl
                                                              refine pure_ (i := 17) (N := some 142) (v := ?_) (a' := ?_) #[true, true, true, false, true, true, true, true, false, true, false, false, true, true, true, false, true, true, false, false, false, false, false, false, false] rfl rfl (any_of HT_.out (by kernel_rfl)) (fun _ _ _ h => h) (Or.inl ⟨by rfl, ?_⟩) ?_ ?_
                                                              rotate_left
                                                              · intro w'
                                                                go_simp
                                                                with_reducible rfl
                                                              rotate_left
                                                              · simp only [Act.put, List.setIfInBounds_toArray, List.set_cons_zero, List.set_cons_succ, i64_w, i32_w]
                                                                rfl
                                                              refine pure_ (i := 18) (N := some 143) (v := ?_) (a' := ?_) #[true, true, true, false, true, true, true, true, false, true, false, false, true, true, true, false, true, true, true, false, false, false, false, false, false] rfl rfl (any_of HT_.out (by kernel_rfl)) (fun _ _ _ h => h) (Or.inl ⟨by rfl, ?_⟩) ?_ ?_
                                                              rotate_left
                                                              · intro w'
                                                                go_simp
                                                                with_reducible rfl
                                                              rotate_left
                                                              · simp only [Act.put, List.setIfInBounds_toArray, List.set_cons_zero, List.set_cons_succ, i64_w, i32_w]
                                                                rfl
                                                              refine take_ (i := 3) (N := some 128) (v := ?_) (a' := ?_) #[true, true, true, true, true, true, true, true, false, true, false, false, true, true, true, false, true, true, true, false, false, false, false, false, false] rfl rfl (take_ofW HT_.out HW_.out (by kernel_rfl)) (fun _ _ _ h => h) (Or.inl ⟨by rfl, ?_⟩) hHeld ?_ ?_
                                                              rotate_left
                                                              · rintro w' ⟨s0, s1, s2, s3, s4⟩
                                                                go_simp
                                                                with_reducible rfl
                                                              rotate_left
                                                              · simp only [Act.put, List.setIfInBounds_toArray, List.set_cons_zero, List.set_cons_succ, i64_w, i32_w]
                                                                rfl
                                                              refine take_ (i := 8) (N := some 133) (v := ?_) (a' := ?_) #[true, true, true, true, true, true, true, true, true, true, false, false, true, true, true, false, true, true, true, false, false, false, false, false, false] rfl rfl (take_ofW HT_.out HW_.out (by kernel_rfl)) (fun _ _ _ h => h) (Or.inl ⟨by rfl, ?_⟩) hHeld ?_ ?_
                                                              rotate_left
                                                              · rintro w' ⟨s0, s1, s2, s3, s4⟩
                                                                go_simp
                                                                with_reducible rfl
                                                              rotate_left
                                                              · simp only [Act.put, List.setIfInBounds_toArray, List.set_cons_zero, List.set_cons_succ, i64_w, i32_w]
                                                                rfl
                                                              refine pure_ (i := 10) (N := some 135) (v := ?_) (a' := ?_) #[true, true, true, true, true, true, true, true, true, true, true, false, true, true, true, false, true, true, true, false, false, false, false, false, false] rfl rfl (any_of HT_.out (by kernel_rfl)) (fun _ _ _ h => h) (Or.inl ⟨by rfl, ?_⟩) ?_ ?_
                                                              rotate_left
                                                              · intro w'
                                                                go_simp
                                                                with_reducible rfl
                                                              rotate_left
                                                              · simp only [Act.put, List.setIfInBounds_toArray, List.set_cons_zero, List.set_cons_succ, i64_w, i32_w]
                                                                rfl
                                                              refine take_ (i := 11) (N := some 136) (v := ?_) (a' := ?_) #[true, true, true, true, true, true, true, true, true, true, true, true, true, true, true, false, true, true, true, false, false, false, false, false, false] rfl rfl (take_ofW HT_.out HW_.out (by kernel_rfl)) (fun _ _ _ h => h) (Or.inl ⟨by rfl, ?_⟩) hHeld ?_ ?_
                                                              rotate_left
                                                              · rintro w' ⟨s0, s1, s2, s3, s4⟩
                                                                go_simp
                                                                with_reducible rfl
                                                              rotate_left
                                                              · simp only [Act.put, List.setIfInBounds_toArray, List.set_cons_zero, List.set_cons_succ, i64_w, i32_w]
                                                                rfl
                                                              refine take_ (i := 15) (N := some 140) (v := ?_) (a' := ?_) #[true, true, true, true, true, true, true, true, true, true, true, true, true, true, true, true, true, true, true, false, false, false, false, false, false] rfl rfl (take_ofW HT_.out HW_.out (by kernel_rfl)) (fun _ _ _ h => h) (Or.inl ⟨by rfl, ?_⟩) hHeld ?_ ?_
                                                              rotate_left
                                                              · rintro w' ⟨s0, s1, s2, s3, s4⟩
                                                                go_simp
                                                                with_reducible rfl
                                                              rotate_left
                                                              · simp only [Act.put, List.setIfInBounds_toArray, List.set_cons_zero, List.set_cons_succ, i64_w, i32_w]
                                                                rfl
                                                              refine pure_ (i := 19) (N := some 144) (v := ?_) (a' := ?_) #[true, true, true, true, true, true, true, true, true, true, true, true, true, true, true, true, true, true, true, true, false, false, false, false, false] rfl rfl (any_of HT_.out (by kernel_rfl)) (fun _ _ _ h => h) (Or.inl ⟨by rfl, ?_⟩) ?_ ?_
                                                              rotate_left
                                                              · intro w'
                                                                go_simp
                                                                with_reducible rfl
                                                              rotate_left
                                                              · simp only [Act.put, List.setIfInBounds_toArray, List.set_cons_zero, List.set_cons_succ, i64_w, i32_w]
                                                                rfl
                                                              refine take_ (i := 20) (N := some 145) (v := ?_) (a' := ?_) #[true, true, true, true, true, true, true, true, true, true, true, true, true, true, true, true, true, true, true, true, true, false, false, false, false] rfl rfl (take_ofW HT_.out HW_.out (by kernel_rfl)) (fun _ _ _ h => h) (Or.inl ⟨by rfl, ?_⟩) hHeld ?_ ?_
                                                              rotate_left
                                                              · rintro w' ⟨s0, s1, s2, s3, s4⟩
                                                                go_simp
                                                                with_reducible rfl
                                                              rotate_left
                                                              · simp only [Act.put, List.setIfInBounds_toArray, List.set_cons_zero, List.set_cons_succ, i64_w, i32_w]
                                                                rfl
                                                              refine pure_ (i := 21) (N := some 146) (v := ?_) (a' := ?_) #[true, true, true, true, true, true, true, true, true, true, true, true, true, true, true, true, true, true, true, true, true, true, false, false, false] rfl rfl (any_of HT_.out (by kernel_rfl)) (fun _ _ _ h => h) (Or.inl ⟨by rfl, ?_⟩) ?_ ?_
                                                              rotate_left
                                                              · intro w'
                                                                go_simp
                                                                with_reducible rfl
                                                              rotate_left
                                                              · simp only [Act.put, List.setIfInBounds_toArray, List.set_cons_zero, List.set_cons_succ, i64_w, i32_w]
                                                                rfl
                                                              refine pure_ (i := 22) (N := some 147) (v := ?_) (a' := ?_) #[true, true, true, true, true, true, true, true, true, true, true, true, true, true, true, true, true, true, true, true, true, true, true, false, false] rfl rfl (any_of HT_.out (by kernel_rfl)) (fun _ _ _ h => h) (Or.inl ⟨by rfl, ?_⟩) ?_ ?_
                                                              rotate_left
                                                              · intro w'
                                                                go_simp
                                                                with_reducible rfl
                                                              rotate_left
                                                              · simp only [Act.put, List.setIfInBounds_toArray, List.set_cons_zero, List.set_cons_succ, i64_w, i32_w]
                                                                rfl
                                                              refine pure_ (i := 23) (N := some 148) (v := ?_) (a' := ?_) #[true, true, true, true, true, true, true, true, true, true, true, true, true, true, true, true, true, true, true, true, true, true, true, true, false] rfl rfl (any_of HT_.out (by kernel_rfl)) (fun _ _ _ h => h) (Or.inl ⟨by rfl, ?_⟩) ?_ ?_
                                                              rotate_left
                                                              · intro w'
                                                                go_simp
                                                                with_reducible rfl
                                                              rotate_left
                                                              · simp only [Act.put, List.setIfInBounds_toArray, List.set_cons_zero, List.set_cons_succ, i64_w, i32_w]
                                                                rfl
                                                              refine last_ (i := 24) (N := none) #[true, true, true, true, true, true, true, true, true, true, true, true, true, true, true, true, true, true, true, true, true, true, true, true, true] rfl rfl (one_of HT_.out (by kernel_rfl)) (by decide) (fun K hK => ?_)
                                                              refine skip_ (w1 := ?_) (by rfl) rfl ?_ ?_
                                                              rotate_left
                                                              · go_simp
                                                                rfl
                                                              refine hK.out _ _ ?_
                                                              clear hK K
                                                              refine done_ (done_of HT_.out (by kernel_rfl)) ?_
                                                              try go_wp2
                                                              (try simp only [← hl210001_3])
                                                              go_roundg k3
                                                              case measure => have := HK1.out; have := HK2.out; have := HK3.out; omega
                                                              case rel => exact ⟨(Go.bits .and .i64 (wrap64 (x10_3 - 1)) x8_2), (x210000_3), (y230), (u210000), (.slice (some ⟨go64, 0, none⟩) x210002_3.length co67), (by first | rfl | (simp; done) | (simp [*]; done)), H', ⟨by have := HK1.out; have := HK2.out; have := HK3.out; omega⟩, ⟨by (try simp only [hl210001_3]); (with_reducible repeat (first | apply Kd.R_alloc | apply Kd.R_drewN | apply Kd.R_drew)); exact Kd.R_mono (Kd.R_far (p := ⟨go64, (x8_2 : Int).toNat, none⟩) (Kd.R_mono HO_210000.out (fun k_ hk => (⟨hk, fun e_ => hk (by rw [e_]; rfl)⟩ : _ ∧ k_ ≠ go64))) (fun _ hk => hk.2) (.int .i64 ji63)) (fun _ hk => hk.1)⟩, ⟨by (try simp only [hl210001_3]); (with_reducible repeat (first | apply Kd.R_alloc | apply Kd.R_drewN | apply Kd.R_drew)); exact Kd.R_mono (Kd.R_far (p := ⟨go64, (x8_2 : Int).toNat, none⟩) (Arr.types_of HO_210001.out HO_210002.out (by decide)) (fun _ hk => hk.2) (.int .i64 ji63)) (fun _ hk => trivial)⟩, ⟨by (try simp only [hl210001_3]); (with_reducible repeat (first | apply Kd.R_alloc | apply Kd.R_drewN | apply Kd.R_drew)); exact HQ68.out⟩, ⟨by (try simp only [hl210001_3]); (with_reducible repeat (first | refine blk_drewN ?_ _ | refine blk_drew ?_ | refine blk_alloc ?_ _)); refine blk_far ?_ (by have h_ := Kd.R_ne HO_210002.out BK209.out (by decide); intro e_; exact h_ (by rw [e_]; rfl)) _; (with_reducible repeat (first | refine blk_drewN ?_ _ | refine blk_drew ?_ | refine blk_alloc ?_ _)); exact BK209.out⟩, ⟨by repeat (first | (with_reducible first | exact HB.out | apply below_alloc | apply pw_below_drewN | apply below_drew1 | refine below_set ?_ GB64.out | refine below_set ?_ GE209.out) | exact HB.out)⟩⟩
                                                            · rw [if_neg c62] at H
                                                              exact absurd H (by simp)
                                                          · rw [if_neg c61] at H
                                                            exact absurd H (by simp)
                                                        · rw [if_neg c60] at H
                                                          exact absurd H (by simp)
                                                      · rw [if_neg c59] at H
                                                        exact absurd H (by simp)
                                                    · rw [if_neg c58] at H
                                                      have c58b0 : ((rd y224 x10_3) == 0) = false := beq_eq_false_iff_ne.mpr c58
                                                      have c58b1 : ((rd y224 x10_3) != 0) = true := bne_iff_ne.mpr c58
                                                      have H' := Aside0.mk H
                                                      clear H
                                                      have hcz69_0 : wr.cell? ⟨gb209, 0, none⟩ = some (u210000) := (blk_cell BK209.out 0).trans rfl
                                                      have hcz69_1 : wr.cell? ⟨gb209, 1, none⟩ = some (.slice (some ⟨go41, 0, none⟩) y224.length co48) := (blk_cell BK209.out 1).trans rfl
                                                      have hcz69_2 : wr.cell? ⟨gb209, 2, none⟩ = some (u210002) := (blk_cell BK209.out 2).trans rfl
                                                      have hfz69_0 := blk_frozen BK209.out 0
                                                      have hfz69_1 := blk_frozen BK209.out 1
                                                      have hfz69_2 := blk_frozen BK209.out 2
                                                      have p227 : 0 ≤ (x10_3 : Int) := of_decide_eq_true (by first | (with_reducible assumption) | assumption)
                                                      have q227 : x10_3 < (y224.length : Int) := of_decide_eq_true (by first | (with_reducible assumption) | assumption)
                                                      obtain ⟨ad227, e227, hx227_0⟩ := Kd.at_int (Kd.R_reads' HO_210001.out).2.2 x10_3 p227 q227
                                                      obtain rfl : (⟨go41, 0, none⟩ : Addr) = ad227 := (by injection e227)
                                                      (first | simp only [add_plain] at hx227_0 | simp only [add_at] at hx227_0 | simp only [Addr.add, Nat.zero_add] at hx227_0 | skip)
                                                      replace p227 := eq_true p227
                                                      replace q227 := eq_true q227
                                                      go_wp2
                                                      (try simp only [← hl210001_3])
                                                      go_roundg k3
                                                      case measure => have := HK1.out; have := HK2.out; have := HK3.out; omega
                                                      case rel => exact ⟨(Go.bits .and .i64 (wrap64 (x10_3 - 1)) x8_2), (x210000_3), (x210002_3), (u210000), (u210002), (by first | rfl | (simp; done) | (simp [*]; done)), H', ⟨by have := HK1.out; have := HK2.out; have := HK3.out; omega⟩, ⟨by (try simp only [hl210001_3]); (with_reducible repeat (first | apply Kd.R_alloc | apply Kd.R_drewN | apply Kd.R_drew)); exact HO_210000.out⟩, ⟨by (try simp only [hl210001_3]); (with_reducible repeat (first | apply Kd.R_alloc | apply Kd.R_drewN | apply Kd.R_drew)); exact HO_210001.out⟩, ⟨by (try simp only [hl210001_3]); (with_reducible repeat (first | apply Kd.R_alloc | apply Kd.R_drewN | apply Kd.R_drew)); exact HO_210002.out⟩, ⟨by (try simp only [hl210001_3]); (with_reducible repeat (first | refine blk_drewN ?_ _ | refine blk_drew ?_ | refine blk_alloc ?_ _)); exact BK209.out⟩, ⟨by repeat (first | (with_reducible first | exact HB.out | apply below_alloc | apply pw_below_drewN | apply below_drew1 | refine below_set ?_ GE209.out) | exact HB.out)⟩⟩
                                                  · rw [if_neg c57] at H
                                                    exact absurd H (by simp)
                                                · rw [if_neg c56] at H
                                                  exact absurd H (by simp)
                                              · rw [if_neg c55] at H
                                                have c55b0 : decide (0 < x10_3) = false := decide_eq_false c55
                                                clear c55
                                                have H' := Aside0.mk H
                                                clear H
                                                go_wp2
                                                (try simp only [← hl210001_3])
                                                go_roundg k3
                                                case measure => have := HK1.out; have := HK2.out; have := HK3.out; omega
                                                case rel => exact ⟨(wrap64 (x8_2 + 1)), (x210000_3), (y224), (x210002_3), (u210000), (.slice (some ⟨go41, 0, none⟩) y224.length co48), (u210002), (by first | rfl | (simp; done) | (simp [*]; done)), H', ⟨by have := HK1.out; have := HK2.out; have := HK3.out; omega⟩, ⟨by (try simp only [hl210001_3]); (with_reducible repeat (first | apply Kd.R_alloc | apply Kd.R_drewN | apply Kd.R_drew)); exact HO_210000.out⟩, ⟨by (try simp only [hl210001_3]); (with_reducible repeat (first | apply Kd.R_alloc | apply Kd.R_drewN | apply Kd.R_drew)); exact HO_210001.out⟩, ⟨by (try simp only [hl210001_3]); (with_reducible repeat (first | apply Kd.R_alloc | apply Kd.R_drewN | apply Kd.R_drew)); exact HO_210002.out⟩, ⟨by (try simp only [hl210001_3]); (with_reducible repeat (first | refine blk_drewN ?_ _ | refine blk_drew ?_ | refine blk_alloc ?_ _)); exact BK209.out⟩, ⟨by repeat (first | (with_reducible first | exact HB.out | apply below_alloc | apply pw_below_drewN | apply below_drew1 | refine below_set ?_ GE209.out) | exact HB.out)⟩⟩
                                        · rw [if_neg c44] at H
                                          exact absurd H (by simp)
                                      · rw [if_neg c43] at H
                                        have c43b0 : ((wrap64 ((rd x210001_2 (ji32)) + (rd l0 (rd x210000_2 t220)))) == 0) = false := beq_eq_false_iff_ne.mpr c43
                                        have c43b1 : ((wrap64 ((rd x210001_2 (ji32)) + (rd l0 (rd x210000_2 t220)))) != 0) = true := bne_iff_ne.mpr c43
                                        have H' := Aside0.mk H
                                        clear H
                                        try go_wp2_with (first | ((with_reducible refine gate_callee (f := 43) rfl ?_); refine goesL_ (some 65) rfl rfl Tryd.func43 (by kernel_rfl) rfl #[.int .u64 (IntKind.u64.wrap (x8_2))] rfl (by (try simp only [List.map_toArray, List.map_cons, List.map_nil]); first | done | (go_simp; done) | rfl | (simp only [List.length_drop, List.length_take]; rfl)) ?_; (with_reducible refine (bits_TrailingZeros.calls (IntKind.u64.wrap (x8_2)) t220 _ ?side1 A31.out).mono ?_); (case side1 => first | exact hT | exact Tt.TT_on hT (by repeat (first | (with_reducible first | exact HB.out | apply below_alloc | apply pw_below_drewN | apply below_drew1 | refine below_set ?_ GE209.out) | exact HB.out))); rintro e w70 ⟨rfl, hb⟩; refine ⟨_, rfl, ?_⟩; have n0_ := Aside0.mk (Kd.R_below (by (with_reducible repeat (first | apply Kd.R_alloc | apply Kd.R_drewN | apply Kd.R_drew)); exact HO_210000.out) hb); have n1_ := Aside0.mk (Kd.R_below (by (with_reducible repeat (first | apply Kd.R_alloc | apply Kd.R_drewN | apply Kd.R_drew)); exact HO_210001.out) hb); have n2_ := Aside0.mk (Kd.R_below (by (with_reducible repeat (first | apply Kd.R_alloc | apply Kd.R_drewN | apply Kd.R_drew)); exact HO_210002.out) hb); have n3_ := Aside0.mk (blk_below (g := gb209) (o := .cells #[u210000, u210001, u210002] 46 (0, 0)) (by (with_reducible repeat (first | refine blk_drewN ?_ _ | refine blk_drew ?_ | refine blk_alloc ?_ _)); exact BK209.out) hb); have n4_ := Aside0.mk (below_step (by repeat (first | (with_reducible first | exact HB.out | apply below_alloc | apply pw_below_drewN | apply below_drew1 | refine below_set ?_ GE209.out) | exact HB.out)) hb); clear HO_210000; clear HO_210001; clear HO_210002; clear BK209; clear HB; have HO_210000 := n0_; have HO_210001 := n1_; have HO_210002 := n2_; have BK209 := n3_; have HB := n4_; clear n0_ n1_ n2_ n3_ n4_; (try clear hb); (try clear hb2); (try clear hk); (try clear hi)))
                                        have n0_ := Aside0.mk (Kd.R_drew HO_210000.out)
                                        have n1_ := Aside0.mk (Kd.R_drew HO_210001.out)
                                        have n2_ := Aside0.mk (Kd.R_drew HO_210002.out)
                                        have n3_ := Aside0.mk (blk_drew BK209.out)
                                        have n4_ := Aside0.mk (below_drew1 HB.out)
                                        clear HO_210000
                                        clear HO_210001
                                        clear HO_210002
                                        clear BK209
                                        clear HB
                                        have HO_210000 := n0_
                                        have HO_210001 := n1_
                                        have HO_210002 := n2_
                                        have BK209 := n3_
                                        have HB := n4_
                                        clear n0_ n1_ n2_ n3_ n4_
                                        obtain ⟨Ao72, co72, eo72⟩ := Kd.R_slice HO_210001.out
                                        (first | subst eo72 | (injection eo72 with f1_ f2_ f3_; have f4_ := f1_.symm; have f5_ := f3_.symm; clear f1_ f2_ f3_; subst f4_; subst f5_))
                                        have p221 : 0 ≤ ((ji32) : Int) := of_decide_eq_true (by first | (with_reducible assumption) | assumption)
                                        have q221 : (ji32) < (x210001_2.length : Int) := of_decide_eq_true (by first | (with_reducible assumption) | assumption)
                                        obtain ⟨ad221, e221, hx221_0⟩ := Kd.at_int (Kd.R_reads' HO_210001.out).2.2 (ji32) p221 q221
                                        cases e221
                                        replace p221 := eq_true p221
                                        replace q221 := eq_true q221
                                        obtain ⟨Ao73, co73, eo73⟩ := Kd.R_slice HO_210000.out
                                        (first | subst eo73 | (injection eo73 with f1_ f2_ f3_; have f4_ := f1_.symm; have f5_ := f3_.symm; clear f1_ f2_ f3_; subst f4_; subst f5_))
                                        have p222 : 0 ≤ (t220 : Int) := of_decide_eq_true (by first | (with_reducible assumption) | assumption)
                                        have q222 : t220 < (x210000_2.length : Int) := of_decide_eq_true (by first | (with_reducible assumption) | assumption)
                                        obtain ⟨ad222, e222, hx222_0⟩ := Kd.at_int (Kd.R_reads' HO_210000.out).2.2 t220 p222 q222
                                        cases e222
                                        replace p222 := eq_true p222
                                        replace q222 := eq_true q222
                                        have p223 : 0 ≤ ((rd x210000_2 t220) : Int) := of_decide_eq_true (by first | (with_reducible assumption) | assumption)
                                        have q223 : (rd x210000_2 t220) < (l0.length : Int) := of_decide_eq_true (by first | (with_reducible assumption) | assumption)
                                        obtain ⟨ad223, e223, hx223_0⟩ := Kd.at_int HR0.out (rd x210000_2 t220) p223 q223
                                        have hw223_0 := hx223_0
                                        cases e223
                                        try replace hx223_0 := (HB.out.cell (World.block_lt_of_cell? w _ hx223_0)).trans hx223_0
                                        replace p223 := eq_true p223
                                        replace q223 := eq_true q223
                                        have p41 : 0 ≤ (x8_2 : Int) := of_decide_eq_true (by first | (with_reducible assumption) | assumption)
                                        have q41 : (x8_2 : Int) < ((x210001_2.length : Int) : Int) := of_decide_eq_true (by first | (with_reducible assumption) | assumption)
                                        obtain ⟨go41, co41, eo41, gb41, gl41, cl41, HG41⟩ := Kd.R_form HO_210001.out (by omega)
                                        (first | cases eo41 | (injection eo41 with ea_ en_ ec_; (first | subst ea_ | (injection ea_ with ea_; subst ea_)); subst ec_; clear en_))
                                        have GB41 := Aside0.mk gb41
                                        have GG41 := Aside0.mk HG41
                                        clear gb41 gl41 HG41
                                        (first | simp only [add_plain] at hx221_0 | skip)
                                        obtain ⟨hx41_0, hf41_0⟩ := Kd.R_celln 0 HO_210001.out (x8_2 : Int) p41 q41
                                        replace p41 := eq_true p41
                                        replace q41 := eq_true q41
                                        have HP74 := Kd.R_putn HO_210001.out (x8_2 : Int) (wrap64 ((rd x210001_2 (ji32)) + (rd l0 (rd x210000_2 t220))))
                                        rw [← Ny224.out] at HP74
                                        have HQ74 := Aside0.mk HP74
                                        clear HP74
                                        refine start_ (n := 28) (S := fun w' => w'.cell? ⟨gb209, 0, none⟩ = some (.slice (some ad222) x210000_2.length co73) ∧ w'.cell? ⟨gb209, 1, none⟩ = some (.slice (some ⟨go41, 0, none⟩) x210001_2.length co72) ∧ w'.cell? ⟨gb209, 2, none⟩ = some (u210002) ∧ w'.cell? ⟨go41, ((ji32)).toNat, none⟩ = some (.int .i64 (rd x210001_2 (ji32))) ∧ w'.cell? (ad222.add (t220).toNat) = some (.int .i64 (rd x210000_2 t220)) ∧ w'.cell? (ad223.add ((rd x210000_2 t220)).toNat) = some (.int .i64 (rd l0 (rd x210000_2 t220)))) (ds := [27]) #[false, false, false, false, false, false, false, false, false, false, false, false, false, false, false, false, false, false, false, false, false, false, false, false, false, false, false, false] (by kernel_rfl) rfl rfl ⟨(blk_cell BK209.out 0).trans rfl, (blk_cell BK209.out 1).trans rfl, (blk_cell BK209.out 2).trans rfl, hx221_0, hx222_0, ((HB.out.cell (World.block_lt_of_cell? _ _ hw223_0)).trans hw223_0)⟩ (fun hHeld => ?_); refine with_tabW impl_partingOf.tab19 impl_partingOf.bits19 (fun HT_ HW_ => ?_)
                                        generalize w70.drew = w71 at HO_210000 HO_210001 HO_210002 BK209 HB GG41 HQ74 hf41_0 hx221_0 hx222_0 hx223_0 hx41_0 hHeld ⊢
                                        refine pure_ (i := 0) (N := some 66) (v := ?_) (a' := ?_) #[true, false, false, false, false, false, false, false, false, false, false, false, false, false, false, false, false, false, false, false, false, false, false, false, false, false, false, false] rfl rfl (any_of HT_.out (by kernel_rfl)) (fun _ _ _ h => h) (Or.inl ⟨by rfl, ?_⟩) ?_ ?_
                                        rotate_left
                                        · intro w'
                                          go_simp
                                          with_reducible rfl
                                        rotate_left
                                        · simp only [Act.put, List.setIfInBounds_toArray, List.set_cons_zero, List.set_cons_succ, i64_w, i32_w]
                                          rfl
                                        refine pure_ (i := 1) (N := some 67) (v := ?_) (a' := ?_) #[true, true, false, false, false, false, false, false, false, false, false, false, false, false, false, false, false, false, false, false, false, false, false, false, false, false, false, false] rfl rfl (any_of HT_.out (by kernel_rfl)) (fun _ _ _ h => h) (Or.inl ⟨by rfl, ?_⟩) ?_ ?_
                                        rotate_left
                                        · intro w'
                                          go_simp
                                          with_reducible rfl
                                        rotate_left
                                        · simp only [Act.put, List.setIfInBounds_toArray, List.set_cons_zero, List.set_cons_succ, i64_w, i32_w]
                                          rfl
                                        refine pure_ (i := 2) (N := some 68) (v := ?_) (a' := ?_) #[true, true, true, false, false, false, false, false, false, false, false, false, false, false, false, false, false, false, false, false, false, false, false, false, false, false, false, false] rfl rfl (any_of HT_.out (by kernel_rfl)) (fun _ _ _ h => h) (Or.inl ⟨by rfl, ?_⟩) ?_ ?_
                                        rotate_left
                                        · intro w'
                                          go_simp
                                          with_reducible rfl
                                        rotate_left
                                        · simp only [Act.put, List.setIfInBounds_toArray, List.set_cons_zero, List.set_cons_succ, i64_w, i32_w]
                                          rfl
                                        refine pure_ (i := 4) (N := some 70) (v := ?_) (a' := ?_) #[true, true, true, false, true, false, false, false, false, false, false, false, false, false, false, false, false, false, false, false, false, false, false, false, false, false, false, false] rfl rfl (any_of HT_.out (by kernel_rfl)) (fun _ _ _ h => h) (Or.inl ⟨by rfl, ?_⟩) ?_ ?_
                                        rotate_left
                                        · intro w'
                                          go_simp
                                          with_reducible rfl
                                        rotate_left
                                        · simp only [Act.put, List.setIfInBounds_toArray, List.set_cons_zero, List.set_cons_succ, i64_w, i32_w]
                                          rfl
                                        refine pure_ (i := 5) (N := some 71) (v := ?_) (a' := ?_) #[true, true, true, false, true, true, false, false, false, false, false, false, false, false, false, false, false, false, false, false, false, false, false, false, false, false, false, false] rfl rfl (any_of HT_.out (by kernel_rfl)) (fun _ _ _ h => h) (Or.inl ⟨by rfl, ?_⟩) ?_ ?_
                                        rotate_left
                                        · intro w'
                                          go_simp
                                          with_reducible rfl
                                        rotate_left
                                        · simp only [Act.put, List.setIfInBounds_toArray, List.set_cons_zero, List.set_cons_succ, i64_w, i32_w]
                                          rfl
                                        refine pure_ (i := 6) (N := some 72) (v := ?_) (a' := ?_) #[true, true, true, false, true, true, true, false, false, false, false, false, false, false, false, false, false, false, false, false, false, false, false, false, false, false, false, false] rfl rfl (any_of HT_.out (by kernel_rfl)) (fun _ _ _ h => h) (Or.inl ⟨by rfl, ?_⟩) ?_ ?_
                                        rotate_left
                                        · intro w'
                                          go_simp
                                          with_reducible rfl
                                        rotate_left
                                        · simp only [Act.put, List.setIfInBounds_toArray, List.set_cons_zero, List.set_cons_succ, i64_w, i32_w]
                                          rfl
                                        refine pure_ (i := 7) (N := some 73) (v := ?_) (a' := ?_) #[true, true, true, false, true, true, true, true, false, false, false, false, false, false, false, false, false, false, false, false, false, false, false, false, false, false, false, false] rfl rfl (any_of HT_.out (by kernel_rfl)) (fun _ _ _ h => h) (Or.inl ⟨by rfl, ?_⟩) ?_ ?_
                                        rotate_left
                                        · intro w'
                                          go_simp
                                          with_reducible rfl
                                        rotate_left
                                        · simp only [Act.put, List.setIfInBounds_toArray, List.set_cons_zero, List.set_cons_succ, i64_w, i32_w]
                                          rfl
                                        refine pure_ (i := 9) (N := some 75) (v := ?_) (a' := ?_) #[true, true, true, false, true, true, true, true, false, true, false, false, false, false, false, false, false, false, false, false, false, false, false, false, false, false, false, false] rfl rfl (any_of HT_.out (by kernel_rfl)) (fun _ _ _ h => h) (Or.inl ⟨by rfl, ?_⟩) ?_ ?_
                                        rotate_left
                                        · intro w'
                                          go_simp
                                          with_reducible rfl
                                        rotate_left
                                        · simp only [Act.put, List.setIfInBounds_toArray, List.set_cons_zero, List.set_cons_succ, i64_w, i32_w]
                                          rfl
                                        refine pure_ (i := 10) (N := some 76) (v := ?_) (a' := ?_) #[true, true, true, false, true, true, true, true, false, true, true, false, false, false, false, false, false, false, false, false, false, false, false, false, false, false, false, false] rfl rfl (any_of HT_.out (by kernel_rfl)) (fun _ _ _ h => h) (Or.inl ⟨by rfl, ?_⟩) ?_ ?_
                                        rotate_left
                                        · intro w'
                                          go_simp
                                          with_reducible rfl
                                        rotate_left
                                        · simp only [Act.put, List.setIfInBounds_toArray, List.set_cons_zero, List.set_cons_succ, i64_w, i32_w]
                                          rfl
                                        refine pure_ (i := 11) (N := some 77) (v := ?_) (a' := ?_) #[true, true, true, false, true, true, true, true, false, true, true, true, false, false, false, false, false, false, false, false, false, false, false, false, false, false, false, false] rfl rfl (any_of HT_.out (by kernel_rfl)) (fun _ _ _ h => h) (Or.inl ⟨by rfl, ?_⟩) ?_ ?_
                                        rotate_left
                                        · intro w'
                                          go_simp
                                          with_reducible rfl
                                        rotate_left
                                        · simp only [Act.put, List.setIfInBounds_toArray, List.set_cons_zero, List.set_cons_succ, i64_w, i32_w]
                                          rfl
                                        refine pure_ (i := 12) (N := some 78) (v := ?_) (a' := ?_) #[true, true, true, false, true, true, true, true, false, true, true, true, true, false, false, false, false, false, false, false, false, false, false, false, false, false, false, false] rfl rfl (any_of HT_.out (by kernel_rfl)) (fun _ _ _ h => h) (Or.inl ⟨by rfl, ?_⟩) ?_ ?_
                                        rotate_left
                                        · intro w'
                                          go_simp
                                          with_reducible rfl
                                        rotate_left
                                        · simp only [Act.put, List.setIfInBounds_toArray, List.set_cons_zero, List.set_cons_succ, i64_w, i32_w]
                                          rfl
                                        refine pure_ (i := 15) (N := some 81) (v := ?_) (a' := ?_) #[true, true, true, false, true, true, true, true, false, true, true, true, true, false, false, true, false, false, false, false, false, false, false, false, false, false, false, false] rfl rfl (any_of HT_.out (by kernel_rfl)) (fun _ _ _ h => h) (Or.inl ⟨by rfl, ?_⟩) ?_ ?_
                                        rotate_left
                                        · intro w'
                                          go_simp
                                          with_reducible rfl
                                        rotate_left
                                        · simp only [Act.put, List.setIfInBounds_toArray, List.set_cons_zero, List.set_cons_succ, i64_w, i32_w]
                                          rfl
                                        refine pure_ (i := 16) (N := some 82) (v := ?_) (a' := ?_) #[true, true, true, false, true, true, true, true, false, true, true, true, true, false, false, true, true, false, false, false, false, false, false, false, false, false, false, false] rfl rfl (any_of HT_.out (by kernel_rfl)) (fun _ _ _ h => h) (Or.inl ⟨by rfl, ?_⟩) ?_ ?_
                                        rotate_left
                                        · intro w'
                                          go_simp
                                          with_reducible rfl
                                        rotate_left
                                        · simp only [Act.put, List.setIfInBounds_toArray, List.set_cons_zero, List.set_cons_succ, i64_w, i32_w]
                                          rfl
                                        refine pure_ (i := 17) (N := some 83) (v := ?_) (a' := ?_) #[true, true, true, false, true, true, true, true, false, true, true, true, true, false, false, true, true, true, false, false, false, false, false, false, false, false, false, false] rfl rfl (any_of HT_.out (by kernel_rfl)) (fun _ _ _ h => h) (Or.inl ⟨by rfl, ?_⟩) ?_ ?_
                                        rotate_left
                                        · intro w'
                                          go_simp
                                          with_reducible rfl
                                        rotate_left
                                        · simp only [Act.put, List.setIfInBounds_toArray, List.set_cons_zero, List.set_cons_succ, i64_w, i32_w]
                                          rfl
                                        refine pure_ (i := 18) (N := some 84) (v := ?_) (a' := ?_) #[true, true, true, false, true, true, true, true, false, true, true, true, true, false, false, true, true, true, true, false, false, false, false, false, false, false, false, false] rfl rfl (any_of HT_.out (by kernel_rfl)) (fun _ _ _ h => h) (Or.inl ⟨by rfl, ?_⟩) ?_ ?_
                                        rotate_left
                                        · intro w'
                                          go_simp
                                          with_reducible rfl
                                        rotate_left
                                        · simp only [Act.put, List.setIfInBounds_toArray, List.set_cons_zero, List.set_cons_succ, i64_w, i32_w]
                                          rfl
                                        refine pure_ (i := 20) (N := some 86) (v := ?_) (a' := ?_) #[true, true, true, false, true, true, true, true, false, true, true, true, true, false, false, true, true, true, true, false, true, false, false, false, false, false, false, false] rfl rfl (any_of HT_.out (by kernel_rfl)) (fun _ _ _ h => h) (Or.inl ⟨by rfl, ?_⟩) ?_ ?_
                                        rotate_left
                                        · intro w'
                                          go_simp
                                          with_reducible rfl
                                        rotate_left
                                        · simp only [Act.put, List.setIfInBounds_toArray, List.set_cons_zero, List.set_cons_succ, i64_w, i32_w]
                                          rfl
                                        refine take_ (i := 3) (N := some 69) (v := ?_) (a' := ?_) #[true, true, true, true, true, true, true, true, false, true, true, true, true, false, false, true, true, true, true, false, true, false, false, false, false, false, false, false] rfl rfl (take_ofW HT_.out HW_.out (by kernel_rfl)) (fun _ _ _ h => h) (Or.inl ⟨by rfl, ?_⟩) hHeld ?_ ?_
                                        rotate_left
                                        · rintro w' ⟨s0, s1, s2, s3, s4, s5⟩
                                          go_simp
                                          with_reducible rfl
                                        rotate_left
                                        · simp only [Act.put, List.setIfInBounds_toArray, List.set_cons_zero, List.set_cons_succ, i64_w, i32_w]
                                          rfl
                                        refine take_ (i := 8) (N := some 74) (v := ?_) (a' := ?_) #[true, true, true, true, true, true, true, true, true, true, true, true, true, false, false, true, true, true, true, false, true, false, false, false, false, false, false, false] rfl rfl (take_ofW HT_.out HW_.out (by kernel_rfl)) (fun _ _ _ h => h) (Or.inl ⟨by rfl, ?_⟩) hHeld ?_ ?_
                                        rotate_left
                                        · rintro w' ⟨s0, s1, s2, s3, s4, s5⟩
                                          go_simp
                                          with_reducible rfl
                                        rotate_left
                                        · simp only [Act.put, List.setIfInBounds_toArray, List.set_cons_zero, List.set_cons_succ, i64_w, i32_w]
                                          rfl
                                        refine pure_ (i := 13) (N := some 79) (v := ?_) (a' := ?_) #[true, true, true, true, true, true, true, true, true, true, true, true, true, true, false, true, true, true, true, false, true, false, false, false, false, false, false, false] rfl rfl (any_of HT_.out (by kernel_rfl)) (fun _ _ _ h => h) (Or.inl ⟨by rfl, ?_⟩) ?_ ?_
                                        rotate_left
                                        · intro w'
                                          go_simp
                                          with_reducible rfl
                                        rotate_left
                                        · simp only [Act.put, List.setIfInBounds_toArray, List.set_cons_zero, List.set_cons_succ, i64_w, i32_w]
                                          rfl
                                        refine take_ (i := 14) (N := some 80) (v := ?_) (a' := ?_) #[true, true, true, true, true, true, true, true, true, true, true, true, true, true, true, true, true, true, true, false, true, false, false, false, false, false, false, false] rfl rfl (take_ofW HT_.out HW_.out (by kernel_rfl)) (fun _ _ _ h => h) (Or.inl ⟨by rfl, ?_⟩) hHeld ?_ ?_
                                        rotate_left
                                        · rintro w' ⟨s0, s1, s2, s3, s4, s5⟩
                                          go_simp
                                          with_reducible rfl
                                        rotate_left
                                        · simp only [Act.put, List.setIfInBounds_toArray, List.set_cons_zero, List.set_cons_succ, i64_w, i32_w]
                                          rfl
                                        refine take_ (i := 19) (N := some 85) (v := ?_) (a' := ?_) #[true, true, true, true, true, true, true, true, true, true, true, true, true, true, true, true, true, true, true, true, true, false, false, false, false, false, false, false] rfl rfl (take_ofW HT_.out HW_.out (by kernel_rfl)) (fun _ _ _ h => h) (Or.inl ⟨by rfl, ?_⟩) hHeld ?_ ?_
                                        rotate_left
                                        · rintro w' ⟨s0, s1, s2, s3, s4, s5⟩
                                          go_simp
                                          with_reducible rfl
                                        rotate_left
                                        · simp only [Act.put, List.setIfInBounds_toArray, List.set_cons_zero, List.set_cons_succ, i64_w, i32_w]
                                          rfl
                                        refine pure_ (i := 21) (N := some 87) (v := ?_) (a' := ?_) #[true, true, true, true, true, true, true, true, true, true, true, true, true, true, true, true, true, true, true, true, true, true, false, false, false, false, false, false] rfl rfl (any_of HT_.out (by kernel_rfl)) (fun _ _ _ h => h) (Or.inl ⟨by rfl, ?_⟩) ?_ ?_
                                        rotate_left
                                        · intro w'
                                          go_simp
                                          with_reducible rfl
                                        rotate_left
                                        · simp only [Act.put, List.setIfInBounds_toArray, List.set_cons_zero, List.set_cons_succ, i64_w, i32_w]
                                          rfl
                                        refine take_ (i := 22) (N := some 88) (v := ?_) (a' := ?_) #[true, true, true, true, true, true, true, true, true, true, true, true, true, true, true, true, true, true, true, true, true, true, true, false, false, false, false, false] rfl rfl (take_ofW HT_.out HW_.out (by kernel_rfl)) (fun _ _ _ h => h) (Or.inl ⟨by rfl, ?_⟩) hHeld ?_ ?_
                                        rotate_left
                                        · rintro w' ⟨s0, s1, s2, s3, s4, s5⟩
                                          go_simp
                                          with_reducible rfl
                                        rotate_left
                                        · simp only [Act.put, List.setIfInBounds_toArray, List.set_cons_zero, List.set_cons_succ, i64_w, i32_w]
                                          rfl
                                        refine pure_ (i := 23) (N := some 89) (v := ?_) (a' := ?_) #[true, true, true, true, true, true, true, true, true, true, true, true, true, true, true, true, true, true, true, true, true, true, true, true, false, false, false, false] rfl rfl (any_of HT_.out (by kernel_rfl)) (fun _ _ _ h => h) (Or.inl ⟨by rfl, ?_⟩) ?_ ?_
                                        rotate_left
                                        · intro w'
                                          go_simp
                                          with_reducible rfl
                                        rotate_left
                                        · simp only [Act.put, List.setIfInBounds_toArray, List.set_cons_zero, List.set_cons_succ, i64_w, i32_w]
                                          rfl
                                        refine take_ (i := 24) (N := some 90) (v := ?_) (a' := ?_) #[true, true, true, true, true, true, true, true, true, true, true, true, true, true, true, true, true, true, true, true, true, true, true, true, true, false, false, false] rfl rfl (take_ofW HT_.out HW_.out (by kernel_rfl)) (fun _ _ _ h => h) (Or.inl ⟨by rfl, ?_⟩) hHeld ?_ ?_
                                        rotate_left
                                        · rintro w' ⟨s0, s1, s2, s3, s4, s5⟩
                                          go_simp
                                          with_reducible rfl
                                        rotate_left
                                        · simp only [Act.put, List.setIfInBounds_toArray, List.set_cons_zero, List.set_cons_succ, i64_w, i32_w]
                                          rfl
                                        refine pure_ (i := 25) (N := some 91) (v := ?_) (a' := ?_) #[true, true, true, true, true, true, true, true, true, true, true, true, true, true, true, true, true, true, true, true, true, true, true, true, true, true, false, false] rfl rfl (any_of HT_.out (by kernel_rfl)) (fun _ _ _ h => h) (Or.inl ⟨by rfl, ?_⟩) ?_ ?_
                                        rotate_left
                                        · intro w'
                                          go_simp
                                          with_reducible rfl
                                        rotate_left
                                        · simp only [Act.put, List.setIfInBounds_toArray, List.set_cons_zero, List.set_cons_succ, i64_w, i32_w]
                                          rfl
                                        refine pure_ (i := 26) (N := some 92) (v := ?_) (a' := ?_) #[true, true, true, true, true, true, true, true, true, true, true, true, true, true, true, true, true, true, true, true, true, true, true, true, true, true, true, false] rfl rfl (any_of HT_.out (by kernel_rfl)) (fun _ _ _ h => h) (Or.inl ⟨by rfl, ?_⟩) ?_ ?_
                                        rotate_left
                                        · intro w'
                                          go_simp
                                          with_reducible rfl
                                        rotate_left
                                        · simp only [Act.put, List.setIfInBounds_toArray, List.set_cons_zero, List.set_cons_succ, i64_w, i32_w]
                                          rfl
                                        refine last_ (i := 27) (N := none) #[true, true, true, true, true, true, true, true, true, true, true, true, true, true, true, true, true, true, true, true, true, true, true, true, true, true, true, true] rfl rfl (one_of HT_.out (by kernel_rfl)) (by decide) (fun K hK => ?_)
                                        refine skip_ (w1 := ?_) (by rfl) rfl ?_ ?_
                                        rotate_left
                                        · go_simp
                                          rfl
                                        refine hK.out _ _ ?_
                                        clear hK K
                                        refine done_ (done_of HT_.out (by kernel_rfl)) ?_
                                        have hcz75_0 : (w71.setCell ⟨go41, (x8_2 : Int).toNat, none⟩ (.int .i64 (wrap64 ((rd x210001_2 (ji32)) + (rd l0 (rd x210000_2 t220)))))).cell? ⟨gb209, 0, none⟩ = some (.slice (some ad222) x210000_2.length co73) := (blk_cell (blk_far BK209.out (by have h_ := Kd.R_ne HO_210001.out BK209.out (by decide); intro e_; exact h_ (by rw [e_]; rfl)) _) 0).trans rfl
                                        have hcz75_1 : (w71.setCell ⟨go41, (x8_2 : Int).toNat, none⟩ (.int .i64 (wrap64 ((rd x210001_2 (ji32)) + (rd l0 (rd x210000_2 t220)))))).cell? ⟨gb209, 1, none⟩ = some (.slice (some ⟨go41, 0, none⟩) x210001_2.length co72) := (blk_cell (blk_far BK209.out (by have h_ := Kd.R_ne HO_210001.out BK209.out (by decide); intro e_; exact h_ (by rw [e_]; rfl)) _) 1).trans rfl
                                        have hcz75_2 : (w71.setCell ⟨go41, (x8_2 : Int).toNat, none⟩ (.int .i64 (wrap64 ((rd x210001_2 (ji32)) + (rd l0 (rd x210000_2 t220)))))).cell? ⟨gb209, 2, none⟩ = some (u210002) := (blk_cell (blk_far BK209.out (by have h_ := Kd.R_ne HO_210001.out BK209.out (by decide); intro e_; exact h_ (by rw [e_]; rfl)) _) 2).trans rfl
                                        have hfz75_0 := blk_frozen (show (w71.setCell ⟨go41, (x8_2 : Int).toNat, none⟩ (.int .i64 (wrap64 ((rd x210001_2 (ji32)) + (rd l0 (rd x210000_2 t220)))))).heap[gb209]? = some _ from blk_far BK209.out (by have h_ := Kd.R_ne HO_210001.out BK209.out (by decide); intro e_; exact h_ (by rw [e_]; rfl)) _) 0
                                        have hfz75_1 := blk_frozen (show (w71.setCell ⟨go41, (x8_2 : Int).toNat, none⟩ (.int .i64 (wrap64 ((rd x210001_2 (ji32)) + (rd l0 (rd x210000_2 t220)))))).heap[gb209]? = some _ from blk_far BK209.out (by have h_ := Kd.R_ne HO_210001.out BK209.out (by decide); intro e_; exact h_ (by rw [e_]; rfl)) _) 1
                                        have hfz75_2 := blk_frozen (show (w71.setCell ⟨go41, (x8_2 : Int).toNat, none⟩ (.int .i64 (wrap64 ((rd x210001_2 (ji32)) + (rd l0 (rd x210000_2 t220)))))).heap[gb209]? = some _ from blk_far BK209.out (by have h_ := Kd.R_ne HO_210001.out BK209.out (by decide); intro e_; exact h_ (by rw [e_]; rfl)) _) 2
                                        have p42 : 0 ≤ (x8_2 : Int) := of_decide_eq_true (by first | (with_reducible assumption) | assumption)
                                        have q42 : (x8_2 : Int) < ((x210001_2.length : Int) : Int) := of_decide_eq_true (by first | (with_reducible assumption) | assumption)
                                        have hx42_0 : (w71.setCell ⟨go41, (x8_2 : Int).toNat, none⟩ (.int .i64 (wrap64 ((rd x210001_2 (ji32)) + (rd l0 (rd x210000_2 t220)))))).cell? ⟨go41, (x8_2 : Int).toNat, none⟩ = some (.int .i64 (wrap64 ((rd x210001_2 (ji32)) + (rd l0 (rd x210000_2 t220))))) := by
                                          have h_ := (Kd.R_celln 0 HQ74.out (x8_2 : Int) p42 q42).1
                                          exact h_.trans (congrArg (fun z => some (Value.int .i64 z)) (show rd y224 x8_2 = (wrap64 ((rd x210001_2 (ji32)) + (rd l0 (rd x210000_2 t220)))) from by rw [Ny224.out]; show (List.set _ _ _).getD _ 0 = _; rw [List.getD_eq_getElem?_getD, List.getElem?_set_self (by omega)]; rfl))
                                        replace p42 := eq_true p42
                                        replace q42 := eq_true q42
                                        try go_wp2
                                        go_roundg k2
                                        case measure => have := HK1.out; have := HK2.out; omega
                                        case rel => exact ⟨(wrap64 (x8_2 + 1)), (x210000_2), (y224), (x210002_2), (.slice (some ad222) x210000_2.length co73), (.slice (some ⟨go41, 0, none⟩) x210001_2.length co72), (u210002), (by first | rfl | (simp; done) | (simp [*]; done)), H', ⟨by have := HK1.out; have := HK2.out; omega⟩, ⟨by (with_reducible repeat (first | apply Kd.R_alloc | apply Kd.R_drewN | apply Kd.R_drew)); exact Kd.R_mono (Kd.R_far (p := ⟨go41, (x8_2 : Int).toNat, none⟩) (Arr.types_of HO_210000.out HO_210001.out (by decide)) (fun _ hk => hk.2) (.int .i64 (wrap64 ((rd x210001_2 (ji32)) + (rd l0 (rd x210000_2 t220)))))) (fun _ hk => hk.1)⟩, ⟨by (with_reducible repeat (first | apply Kd.R_alloc | apply Kd.R_drewN | apply Kd.R_drew)); exact HQ74.out⟩, ⟨by (with_reducible repeat (first | apply Kd.R_alloc | apply Kd.R_drewN | apply Kd.R_drew)); exact Kd.R_mono (Kd.R_far (p := ⟨go41, (x8_2 : Int).toNat, none⟩) (Arr.types_of HO_210002.out HO_210001.out (by decide)) (fun _ hk => hk.2) (.int .i64 (wrap64 ((rd x210001_2 (ji32)) + (rd l0 (rd x210000_2 t220)))))) (fun _ hk => hk.1)⟩, ⟨by (with_reducible repeat (first | refine blk_drewN ?_ _ | refine blk_drew ?_ | refine blk_alloc ?_ _)); refine blk_far ?_ (by have h_ := Kd.R_ne HO_210001.out BK209.out (by decide); intro e_; exact h_ (by rw [e_]; rfl)) _; (with_reducible repeat (first | refine blk_drewN ?_ _ | refine blk_drew ?_ | refine blk_alloc ?_ _)); exact BK209.out⟩, ⟨by repeat (first | (with_reducible first | exact HB.out | apply below_alloc | apply pw_below_drewN | apply below_drew1 | refine below_set ?_ GB41.out | refine below_set ?_ GE209.out) | exact HB.out)⟩⟩
                                    · rw [if_neg c40] at H
                                      exact absurd H (by simp)
                                  · rw [if_neg c39] at H
                                    exact absurd H (by simp)
                                · rw [if_neg c38] at H
                                  exact absurd H (by simp)
                              · rw [if_neg c37] at H
                                exact absurd H (by simp)
                            · rw [if_neg c36] at H
                              exact absurd H (by simp)
                          · rw [if_neg c35] at H
                            exact absurd H (by simp)
                        · rw [if_neg c34] at H
                          exact absurd H (by simp)
                      · rw [if_neg c33] at H
                        exact absurd H (by simp)
                    · rw [if_neg c30] at H
                      have c30b0 : decide (x8_2 < ji17) = false := decide_eq_false c30
                      clear c30
                      simp only [Option.some.injEq, Prod.mk.injEq] at H
                      obtain ⟨rfl, rfl, rfl, rfl⟩ := H
                      have hcz76_0 : wr.cell? ⟨gb209, 0, none⟩ = some (u210000) := (blk_cell BK209.out 0).trans rfl
                      have hcz76_1 : wr.cell? ⟨gb209, 1, none⟩ = some (u210001) := (blk_cell BK209.out 1).trans rfl
                      have hcz76_2 : wr.cell? ⟨gb209, 2, none⟩ = some (u210002) := (blk_cell BK209.out 2).trans rfl
                      have hfz76_0 := blk_frozen BK209.out 0
                      have hfz76_1 := blk_frozen BK209.out 1
                      have hfz76_2 := blk_frozen BK209.out 2
                      go_wp2
                      refine bodyPost_ret (results_list (rs := [.tmp 2, .tmp 3]) rfl (by simp) (.tmp (.tmp .nil))) rfl ?_
                      exact ⟨.pointer (some ⟨gb209, 0, none⟩), u210000, u210001, u210002, by first | rfl | (simp [errW_none, errW_some] <;> rfl) | (simp only [← hji17]; first | rfl | (simp [errW_none, errW_some] <;> rfl)) | (simp [*, errW_none, errW_some] <;> rfl), (fun _ => ⟨gb209, rfl, GE209.out, by (with_reducible repeat (first | refine blk_drewN ?_ _ | refine blk_drew ?_ | refine blk_alloc ?_ _)); exact BK209.out⟩), by (with_reducible repeat (first | apply Kd.R_alloc | apply Kd.R_drewN | apply Kd.R_drew)); exact HO_210000.out, by (with_reducible repeat (first | apply Kd.R_alloc | apply Kd.R_drewN | apply Kd.R_drew)); exact HO_210001.out, by (with_reducible repeat (first | apply Kd.R_alloc | apply Kd.R_drewN | apply Kd.R_drew)); exact HO_210002.out, by repeat (first | (with_reducible first | exact HB.out | apply below_alloc | apply pw_below_drewN | apply below_drew1 | refine below_set ?_ GE209.out) | exact HB.out)⟩
              · rw [if_neg c19] at H
                exact absurd H (by simp)
            · rw [if_neg c18] at H
              exact absurd H (by simp)
  · replace c3 := Bool.eq_false_iff.mpr c3
    subst c3
    have H1 : (some (([] : List Int), ([] : List Int), ([] : List Int), 1)) = some (r1, r2, r3, r4) := by rw [if_neg (show ¬ (false = true) by decide)] at H; exact H
    clear H
    have H := H1
    clear H1
    simp only [Option.some.injEq, Prod.mk.injEq] at H
    obtain ⟨rfl, rfl, rfl, rfl⟩ := H
    go_enter Tryd.func25, Tryd.ntmps25
    go_wp2_with (first | ((with_reducible refine gate_callee (f := 36) rfl ?_); refine goesL_ (some 12) rfl rfl Tryd.func36 (by kernel_rfl) rfl #[.slice A0 l0.length c0] rfl (by (try simp only [List.map_toArray, List.map_cons, List.map_nil]); first | done | (go_simp; done) | rfl | (simp only [List.length_drop, List.length_take]; rfl)) ?_; (with_reducible refine (impl_areNets.calls k _ _ l0 false _ ?side1 ?side2 A2.out).mono ?_); (case side1 => repeat (first | exact HR0.out | (with_reducible refine Kd.C_alloc ?_ _) | (with_reducible refine Kd.C_drewN ?_ _) | (with_reducible refine Kd.C_drew ?_))); (case side2 => exact HC0.out); rintro e w' ⟨rfl, ⟨nd, rfl⟩⟩; refine ⟨_, rfl, ?_⟩))
    refine bodyPost_ret (results_list (rs := [.tmp 2, .tmp 3]) rfl (by simp) (.tmp (.tmp .nil))) rfl ?_
    exact ⟨.pointer none, .slice none 0 0, .slice none 0 0, .slice none 0 0, by first | rfl | (simp [errW_none, errW_some] <;> rfl) | (simp [*, errW_none, errW_some] <;> rfl), (fun h_ => absurd h_ (by decide)), by first | exact Kd.R_nil _ _ _ _ _ | exact Kd.N_nil _ _ _ _ _ | exact Kd.V_nil _ _ _ _ _ | exact Kd.Q_nil _ _ _ _ _ | exact Kd.S_nil _ _ _ _ _, by first | exact Kd.R_nil _ _ _ _ _ | exact Kd.N_nil _ _ _ _ _ | exact Kd.V_nil _ _ _ _ _ | exact Kd.Q_nil _ _ _ _ _ | exact Kd.S_nil _ _ _ _ _, by first | exact Kd.R_nil _ _ _ _ _ | exact Kd.N_nil _ _ _ _ _ | exact Kd.V_nil _ _ _ _ _ | exact Kd.Q_nil _ _ _ _ _ | exact Kd.S_nil _ _ _ _ _, by repeat (first | (with_reducible first | exact HB.out | apply below_alloc | apply pw_below_drewN | apply below_drew1) | exact HB.out)⟩

end Go.Proofs.YtcghnnhhgngddaaDoor.MFewestPayments
