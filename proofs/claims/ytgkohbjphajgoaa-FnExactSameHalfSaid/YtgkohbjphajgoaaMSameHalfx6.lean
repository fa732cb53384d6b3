-- by a program of this session, for this claim
import Derived.Test.YtgkohbjphajgoaaMSameHalfx0
import Derived.Test.YtgkohbjphajgoaaMSameHalfx2
import Derived.Test.YtgkohbjphajgoaaMSameHalfx3
import Derived.Test.YtgkohbjphajgoaaMSameHalfx4
import Derived.Test.YtgkohbjphajgoaaMSameHalfx5
namespace Go.Proofs.Ytgkohbjphajgoaa.MSameHalf
open Go.RowKit Go.Proofs.YtgkohbjphajgoaaW.PrintWords Go.Proofs.YtgkohbjphajgoaaW.PrintLast Go.Proofs.YtgkohbjphajgoaaW.PrintMore
attribute [local go_sem] max2_int min2_int max_two min_two max_three min_three max_four min_four   -- for this text's walks alone
set_option linter.unusedVariables false
set_option linter.unusedSimpArgs false

/-! ### laws_FnExactSameHalf: function 8 -/
def laws_FnExactSameHalf.f (k : Nat) (a0_0 : Bool) (l0_1 : List (S90)) (a0_2 : Vector Int 16) (a1_0 : Bool) (l1_1 : List (S90)) (a1_2 : Vector Int 16) : Option (Bool) := (laws_szHalf.f a0_0 l0_1 a0_2 1048576).bind fun t148 => (if t148 < 0 then (some true) else ((laws_szHalf.f a1_0 l1_1 a1_2 t148).bind fun t149 => (if t149 < 0 then (some true) else ((laws_toHalf.f k a0_0 l0_1 a0_2).bind fun bt150 => ((laws_toHalf.f k a1_0 l1_1 a1_2).bind fun bt155 => ((spec_SameHalf.f k bt150.1 bt150.2.1 bt150.2.2 bt155.1 bt155.2.1 bt155.2.2).bind fun t160 => ((laws_toHalf.f k a0_0 l0_1 a0_2).bind fun bt161 => ((laws_toHalf.f k a1_0 l1_1 a1_2).bind fun bt167 => ((impl_SameHalf.f k bt161.1 bt161.2.1 bt161.2.2 bt167.1 bt167.2.1 bt167.2.2).bind fun t173 => (if (t173 != t160) = true then (some false) else ((laws_toHalf.f k a0_0 l0_1 a0_2).bind fun bt174 => ((laws_eqHalf.f k bt161.1 bt161.2.1 bt161.2.2 bt174.1 bt174.2.1 bt174.2.2).bind fun t179 => (if t179 = true then ((laws_toHalf.f k a1_0 l1_1 a1_2).bind fun bt180 => ((laws_eqHalf.f k bt167.1 bt167.2.1 bt167.2.2 bt180.1 bt180.2.1 bt180.2.2).bind fun t185 => (if t185 = true then (some true) else (some false)))) else (some false))))))))))))))
theorem laws_FnExactSameHalf.mono : ∀ a0 a1 a2 a3 a4 a5 k, LeO (laws_FnExactSameHalf.f k a0 a1 a2 a3 a4 a5) (laws_FnExactSameHalf.f (k + 1) a0 a1 a2 a3 a4 a5) := by
  intro a0 a1 a2 a3 a4 a5 k
  unfold laws_FnExactSameHalf.f
  repeat' first
      | (with_reducible exact impl_SameHalf.mono _ _ _ _ _ _ _)
      | (with_reducible exact laws_eqHalf.mono _ _ _ _ _ _ _)
      | (with_reducible exact laws_toHalf.mono _ _ _ _)
      | (with_reducible exact spec_SameHalf.mono _ _ _ _ _ _ _)
      | (with_reducible exact LeO.refl _)
      | (with_reducible exact LeO.none _)
      | (with_reducible refine LeO.ite ?_ ?_)
      | (with_reducible refine LeO.bind ?_ (fun _ => ?_))
      | exact impl_SameHalf.mono _ _ _ _ _ _ _
      | exact laws_eqHalf.mono _ _ _ _ _ _ _
      | exact laws_toHalf.mono _ _ _ _
      | exact spec_SameHalf.mono _ _ _ _ _ _ _
      | exact LeO.none _
      | refine LeO.ite ?_ ?_
      | refine LeO.bind ?_ (fun _ => ?_)
set_option maxHeartbeats 8000000 in
set_option maxRecDepth 100000 in
theorem laws_FnExactSameHalf.calls (k : Nat) (a0_0 : Bool) (A0_1 : Option Addr) (c0_1 : Nat) (l0_1 : List (S90)) (a0_2 : Vector Int 16) (a1_0 : Bool) (A1_1 : Option Addr) (c1_1 : Nat) (l1_1 : List (S90)) (a1_2 : Vector Int 16) (r : Bool) (w : World) (hr0_1 : Kd.C k90 w A0_1 l0_1.length l0_1) (hc0_1 : l0_1.length ≤ c0_1) (hr1_1 : Kd.C k90 w A1_1 l1_1.length l1_1) (hc1_1 : l1_1.length ≤ c1_1) (h : laws_FnExactSameHalf.f k a0_0 l0_1 a0_2 a1_0 l1_1 a1_2 = some r) (ht : r = true) :
    Calls Try.prog 8 #[.agg (⟨(.bool a0_0) :: (.slice A0_1 l0_1.length c0_1) :: Arr.arL .i8 a0_2⟩ : Array Value), .agg (⟨(.bool a1_0) :: (.slice A1_1 l1_1.length c1_1) :: Arr.arL .i8 a1_2⟩ : Array Value)] w fun e w' => e = .returned (.bool r) ∧ Below w.heap.size w w' := by
  have hu42 := Try.underlying42
  have hu47 := Try.underlying47
  have HR0_1 := Aside0.mk hr0_1
  have HC0_1 := Aside0.mk hc0_1
  clear hr0_1 hc0_1
  have HR1_1 := Aside0.mk hr1_1
  have HC1_1 := Aside0.mk hc1_1
  clear hr1_1 hc1_1
  have HB := Aside0.mk (Below.refl w.heap.size w)
  have H : ((laws_szHalf.f a0_0 l0_1 a0_2 1048576).bind fun t148 => (if t148 < 0 then (some true) else ((laws_szHalf.f a1_0 l1_1 a1_2 t148).bind fun t149 => (if t149 < 0 then (some true) else ((laws_toHalf.f k a0_0 l0_1 a0_2).bind fun bt150 => ((laws_toHalf.f k a1_0 l1_1 a1_2).bind fun bt155 => ((spec_SameHalf.f k bt150.1 bt150.2.1 bt150.2.2 bt155.1 bt155.2.1 bt155.2.2).bind fun t160 => ((laws_toHalf.f k a0_0 l0_1 a0_2).bind fun bt161 => ((laws_toHalf.f k a1_0 l1_1 a1_2).bind fun bt167 => ((impl_SameHalf.f k bt161.1 bt161.2.1 bt161.2.2 bt167.1 bt167.2.1 bt167.2.2).bind fun t173 => (if (t173 != t160) = true then (some false) else ((laws_toHalf.f k a0_0 l0_1 a0_2).bind fun bt174 => ((laws_eqHalf.f k bt161.1 bt161.2.1 bt161.2.2 bt174.1 bt174.2.1 bt174.2.2).bind fun t179 => (if t179 = true then ((laws_toHalf.f k a1_0 l1_1 a1_2).bind fun bt180 => ((laws_eqHalf.f k bt167.1 bt167.2.1 bt167.2.2 bt180.1 bt180.2.1 bt180.2.2).bind fun t185 => (if t185 = true then (some true) else (some false)))) else (some false))))))))))))))) = some r := h
  clear h
  replace H := Option.bind_eq_some_iff.mp H
  obtain ⟨t148, A40, H⟩ := H
  replace H : (if t148 < 0 then (some true) else ((laws_szHalf.f a1_0 l1_1 a1_2 t148).bind fun t149 => (if t149 < 0 then (some true) else ((laws_toHalf.f k a0_0 l0_1 a0_2).bind fun bt150 => ((laws_toHalf.f k a1_0 l1_1 a1_2).bind fun bt155 => ((spec_SameHalf.f k bt150.1 bt150.2.1 bt150.2.2 bt155.1 bt155.2.1 bt155.2.2).bind fun t160 => ((laws_toHalf.f k a0_0 l0_1 a0_2).bind fun bt161 => ((laws_toHalf.f k a1_0 l1_1 a1_2).bind fun bt167 => ((impl_SameHalf.f k bt161.1 bt161.2.1 bt161.2.2 bt167.1 bt167.2.1 bt167.2.2).bind fun t173 => (if (t173 != t160) = true then (some false) else ((laws_toHalf.f k a0_0 l0_1 a0_2).bind fun bt174 => ((laws_eqHalf.f k bt161.1 bt161.2.1 bt161.2.2 bt174.1 bt174.2.1 bt174.2.2).bind fun t179 => (if t179 = true then ((laws_toHalf.f k a1_0 l1_1 a1_2).bind fun bt180 => ((laws_eqHalf.f k bt167.1 bt167.2.1 bt167.2.2 bt180.1 bt180.2.1 bt180.2.2).bind fun t185 => (if t185 = true then (some true) else (some false)))) else (some false)))))))))))))) = some r := H
  have A4 := Aside0.mk A40
  clear A40
  by_cases c5 : t148 < 0
  · rw [if_pos c5] at H
    have c5b0 : decide (t148 < 0) = true := decide_eq_true c5
    clear c5
    obtain rfl := Option.some.inj H
    go_enter Try.func8, Try.ntmps8
    go_wp2_with (first | ((with_reducible refine gate_dst (N := 2) rfl ?_); refine box_event ?hg (N := 2) ?hd (cs := (⟨(.bool a0_0) :: (.slice A0_1 l0_1.length c0_1) :: Arr.arL .i8 a0_2⟩ : Array Value)) (t := 42) ?hr ?_; (case hd => rfl); (case hg => rfl); (case hr => first | (go_simp; done) | (go_simp; rfl)); intro gb146 hg w6 hbox hb; have n0_ := Aside0.mk (below_step (by repeat (first | (with_reducible first | exact HB.out | apply below_alloc | apply pw_below_drewN | apply below_drew1) | exact HB.out)) hb); have n1_ := Aside0.mk (hbox); have n2_ := Aside0.mk ((by rw [hg]; exact (below_size (by repeat (first | (with_reducible first | exact HB.out | apply below_alloc | apply pw_below_drewN | apply below_drew1) | exact HB.out))) : w.heap.size ≤ gb146)); have n3_ := Aside0.mk ((by rw [hg]; exact (below_size (by repeat (first | (with_reducible first | exact HB.out | apply below_alloc | apply pw_below_drewN | apply below_drew1) | exact HB.out))) : w.heap.size ≤ gb146)); clear HB; have HB := n0_; have BK146 := n1_; have GW146 := n2_; have GE146 := n3_; clear n0_ n1_ n2_ n3_; clear hb hbox hg) | ((with_reducible refine gate_dst (N := 3) rfl ?_); refine box_event ?hg (N := 3) ?hd (cs := (⟨(.bool a1_0) :: (.slice A1_1 l1_1.length c1_1) :: Arr.arL .i8 a1_2⟩ : Array Value)) (t := 42) ?hr ?_; (case hd => rfl); (case hg => rfl); (case hr => first | (go_simp; done) | (go_simp; rfl)); intro gb147 hg w7 hbox hb; have n0_ := Aside0.mk (blk_below (g := gb146) (o := .cells (⟨(.bool a0_0) :: (.slice A0_1 l0_1.length c0_1) :: Arr.arL .i8 a0_2⟩ : Array Value) 42 (0, 0)) (by (with_reducible repeat (first | refine blk_drewN ?_ _ | refine blk_drew ?_ | refine blk_alloc ?_ _)); exact BK146.out) hb); have n1_ := Aside0.mk (below_step (by repeat (first | (with_reducible first | exact HB.out | apply below_alloc | apply pw_below_drewN | apply below_drew1 | refine below_set ?_ GE146.out) | exact HB.out)) hb); have n2_ := Aside0.mk (hbox); have n3_ := Aside0.mk ((by rw [hg]; exact (below_size (by repeat (first | (with_reducible first | exact HB.out | apply below_alloc | apply pw_below_drewN | apply below_drew1 | refine below_set ?_ GE146.out) | exact HB.out))) : w.heap.size ≤ gb147)); have n4_ := Aside0.mk ((by rw [hg]; exact (below_size (by repeat (first | (with_reducible first | exact HB.out | apply below_alloc | apply pw_below_drewN | apply below_drew1 | refine below_set ?_ GE146.out) | exact HB.out))) : w.heap.size ≤ gb147)); have n5_ := Aside0.mk ((by rw [hg]; exact Nat.ne_of_lt (blk_lt (g := gb146) (o := .cells (⟨(.bool a0_0) :: (.slice A0_1 l0_1.length c0_1) :: Arr.arL .i8 a0_2⟩ : Array Value) 42 (0, 0)) (by (with_reducible repeat (first | refine blk_drewN ?_ _ | refine blk_drew ?_ | refine blk_alloc ?_ _)); exact BK146.out)) : gb146 ≠ gb147)); have n6_ := Aside0.mk ((by rw [hg]; exact Nat.ne_of_gt (blk_lt (g := gb146) (o := .cells (⟨(.bool a0_0) :: (.slice A0_1 l0_1.length c0_1) :: Arr.arL .i8 a0_2⟩ : Array Value) 42 (0, 0)) (by (with_reducible repeat (first | refine blk_drewN ?_ _ | refine blk_drew ?_ | refine blk_alloc ?_ _)); exact BK146.out)) : gb147 ≠ gb146)); clear BK146; clear HB; have BK146 := n0_; have HB := n1_; have BK147 := n2_; have GW147 := n3_; have GE147 := n4_; have NB146_147 := n5_; have NB147_146 := n6_; clear n0_ n1_ n2_ n3_ n4_ n5_ n6_; clear hb hbox hg) | ((with_reducible refine Arr.gate_load (t := 42) (p := 2) rfl ?_); (try (refine gate_guard (by rfl) ?_; dsimp only)); refine Arr.loadA ?hg (T := 42) (p := 2) ?ho (g := gb146) (off := 0) ?hx (t := 42) (l := ((.bool a0_0) :: (.slice A0_1 l0_1.length c0_1) :: Arr.arL .i8 a0_2)) (m := ((.bool a0_0) :: (.slice A0_1 l0_1.length c0_1) :: Arr.arL .i8 a0_2)) (fr := (0, 0)) (show w7.heap[gb146]? = some (.cells (⟨(.bool a0_0) :: (.slice A0_1 l0_1.length c0_1) :: Arr.arL .i8 a0_2⟩ : Array Value) 42 (0, 0)) from by (with_reducible repeat (first | refine blk_drewN ?_ _ | refine blk_drew ?_ | refine blk_alloc ?_ _)); exact BK146.out) rfl Try.underlying42 rfl (n := 18) (by kernel_rfl) (by simp [Arr.arL_length]) ?_; (case hg => rfl); (case ho => rfl); (case hx => first | (go_simp; done) | rfl | (go_simp; rfl))) | ((with_reducible refine gate_callee (f := 27) rfl ?_); refine goesL_ (some 12) rfl rfl Try.func27 (by kernel_rfl) rfl #[.agg (⟨(.bool a0_0) :: (.slice A0_1 l0_1.length c0_1) :: Arr.arL .i8 a0_2⟩ : Array Value), .int .i64 1048576] rfl (by (try simp only [List.map_toArray, List.map_cons, List.map_nil]); first | done | (go_simp; done) | rfl | (simp only [List.length_drop, List.length_take]; rfl)) ?_; (with_reducible refine (laws_szHalf.calls a0_0 _ _ l0_1 a0_2 1048576 t148 _ ?side1 ?side2 A4.out).mono ?_); (case side1 => repeat (first | exact (Kd.C_below HR0_1.out HB.out) | (with_reducible refine Kd.C_alloc ?_ _) | (with_reducible refine Kd.C_drewN ?_ _) | (with_reducible refine Kd.C_drew ?_))); (case side2 => exact HC0_1.out); rintro e w8 ⟨rfl, hb⟩; refine ⟨_, rfl, ?_⟩; have n0_ := Aside0.mk (blk_below (g := gb146) (o := .cells (⟨(.bool a0_0) :: (.slice A0_1 l0_1.length c0_1) :: Arr.arL .i8 a0_2⟩ : Array Value) 42 (0, 0)) (by (with_reducible repeat (first | refine blk_drewN ?_ _ | refine blk_drew ?_ | refine blk_alloc ?_ _)); exact BK146.out) hb); have n1_ := Aside0.mk (blk_below (g := gb147) (o := .cells (⟨(.bool a1_0) :: (.slice A1_1 l1_1.length c1_1) :: Arr.arL .i8 a1_2⟩ : Array Value) 42 (0, 0)) (by (with_reducible repeat (first | refine blk_drewN ?_ _ | refine blk_drew ?_ | refine blk_alloc ?_ _)); exact BK147.out) hb); have n2_ := Aside0.mk (below_step (by repeat (first | (with_reducible first | exact HB.out | apply below_alloc | apply pw_below_drewN | apply below_drew1 | refine below_set ?_ GE146.out | refine below_set ?_ GE147.out) | exact HB.out)) hb); clear BK146; clear BK147; clear HB; have BK146 := n0_; have BK147 := n1_; have HB := n2_; clear n0_ n1_ n2_; (try clear hb); (try clear hb2); (try clear hk); (try clear hi)))
    go_ret
    exact ⟨by first | rfl | (simp [errW_none, errW_some] <;> rfl) | (simp [*, errW_none, errW_some] <;> rfl), by repeat (first | (with_reducible first | exact HB.out | apply below_alloc | apply pw_below_drewN | apply below_drew1 | refine below_set ?_ GE146.out | refine below_set ?_ GE147.out) | exact HB.out)⟩
  · rw [if_neg c5] at H
    have c5b0 : decide (t148 < 0) = false := decide_eq_false c5
    clear c5
    replace H := Option.bind_eq_some_iff.mp H
    obtain ⟨t149, A100, H⟩ := H
    replace H : (if t149 < 0 then (some true) else ((laws_toHalf.f k a0_0 l0_1 a0_2).bind fun bt150 => ((laws_toHalf.f k a1_0 l1_1 a1_2).bind fun bt155 => ((spec_SameHalf.f k bt150.1 bt150.2.1 bt150.2.2 bt155.1 bt155.2.1 bt155.2.2).bind fun t160 => ((laws_toHalf.f k a0_0 l0_1 a0_2).bind fun bt161 => ((laws_toHalf.f k a1_0 l1_1 a1_2).bind fun bt167 => ((impl_SameHalf.f k bt161.1 bt161.2.1 bt161.2.2 bt167.1 bt167.2.1 bt167.2.2).bind fun t173 => (if (t173 != t160) = true then (some false) else ((laws_toHalf.f k a0_0 l0_1 a0_2).bind fun bt174 => ((laws_eqHalf.f k bt161.1 bt161.2.1 bt161.2.2 bt174.1 bt174.2.1 bt174.2.2).bind fun t179 => (if t179 = true then ((laws_toHalf.f k a1_0 l1_1 a1_2).bind fun bt180 => ((laws_eqHalf.f k bt167.1 bt167.2.1 bt167.2.2 bt180.1 bt180.2.1 bt180.2.2).bind fun t185 => (if t185 = true then (some true) else (some false)))) else (some false)))))))))))) = some r := H
    have A10 := Aside0.mk A100
    clear A100
    by_cases c11 : t149 < 0
    · rw [if_pos c11] at H
      have c11b0 : decide (t149 < 0) = true := decide_eq_true c11
      clear c11
      obtain rfl := Option.some.inj H
      go_enter Try.func8, Try.ntmps8
      go_wp2_with (first | ((with_reducible refine gate_dst (N := 2) rfl ?_); refine box_event ?hg (N := 2) ?hd (cs := (⟨(.bool a0_0) :: (.slice A0_1 l0_1.length c0_1) :: Arr.arL .i8 a0_2⟩ : Array Value)) (t := 42) ?hr ?_; (case hd => rfl); (case hg => rfl); (case hr => first | (go_simp; done) | (go_simp; rfl)); intro gb146 hg w12 hbox hb; have n0_ := Aside0.mk (below_step (by repeat (first | (with_reducible first | exact HB.out | apply below_alloc | apply pw_below_drewN | apply below_drew1) | exact HB.out)) hb); have n1_ := Aside0.mk (hbox); have n2_ := Aside0.mk ((by rw [hg]; exact (below_size (by repeat (first | (with_reducible first | exact HB.out | apply below_alloc | apply pw_below_drewN | apply below_drew1) | exact HB.out))) : w.heap.size ≤ gb146)); have n3_ := Aside0.mk ((by rw [hg]; exact (below_size (by repeat (first | (with_reducible first | exact HB.out | apply below_alloc | apply pw_below_drewN | apply below_drew1) | exact HB.out))) : w.heap.size ≤ gb146)); clear HB; have HB := n0_; have BK146 := n1_; have GW146 := n2_; have GE146 := n3_; clear n0_ n1_ n2_ n3_; clear hb hbox hg) | ((with_reducible refine gate_dst (N := 3) rfl ?_); refine box_event ?hg (N := 3) ?hd (cs := (⟨(.bool a1_0) :: (.slice A1_1 l1_1.length c1_1) :: Arr.arL .i8 a1_2⟩ : Array Value)) (t := 42) ?hr ?_; (case hd => rfl); (case hg => rfl); (case hr => first | (go_simp; done) | (go_simp; rfl)); intro gb147 hg w13 hbox hb; have n0_ := Aside0.mk (blk_below (g := gb146) (o := .cells (⟨(.bool a0_0) :: (.slice A0_1 l0_1.length c0_1) :: Arr.arL .i8 a0_2⟩ : Array Value) 42 (0, 0)) (by (with_reducible repeat (first | refine blk_drewN ?_ _ | refine blk_drew ?_ | refine blk_alloc ?_ _)); exact BK146.out) hb); have n1_ := Aside0.mk (below_step (by repeat (first | (with_reducible first | exact HB.out | apply below_alloc | apply pw_below_drewN | apply below_drew1 | refine below_set ?_ GE146.out) | exact HB.out)) hb); have n2_ := Aside0.mk (hbox); have n3_ := Aside0.mk ((by rw [hg]; exact (below_size (by repeat (first | (with_reducible first | exact HB.out | apply below_alloc | apply pw_below_drewN | apply below_drew1 | refine below_set ?_ GE146.out) | exact HB.out))) : w.heap.size ≤ gb147)); have n4_ := Aside0.mk ((by rw [hg]; exact (below_size (by repeat (first | (with_reducible first | exact HB.out | apply below_alloc | apply pw_below_drewN | apply below_drew1 | refine below_set ?_ GE146.out) | exact HB.out))) : w.heap.size ≤ gb147)); have n5_ := Aside0.mk ((by rw [hg]; exact Nat.ne_of_lt (blk_lt (g := gb146) (o := .cells (⟨(.bool a0_0) :: (.slice A0_1 l0_1.length c0_1) :: Arr.arL .i8 a0_2⟩ : Array Value) 42 (0, 0)) (by (with_reducible repeat (first | refine blk_drewN ?_ _ | refine blk_drew ?_ | refine blk_alloc ?_ _)); exact BK146.out)) : gb146 ≠ gb147)); have n6_ := Aside0.mk ((by rw [hg]; exact Nat.ne_of_gt (blk_lt (g := gb146) (o := .cells (⟨(.bool a0_0) :: (.slice A0_1 l0_1.length c0_1) :: Arr.arL .i8 a0_2⟩ : Array Value) 42 (0, 0)) (by (with_reducible repeat (first | refine blk_drewN ?_ _ | refine blk_drew ?_ | refine blk_alloc ?_ _)); exact BK146.out)) : gb147 ≠ gb146)); clear BK146; clear HB; have BK146 := n0_; have HB := n1_; have BK147 := n2_; have GW147 := n3_; have GE147 := n4_; have NB146_147 := n5_; have NB147_146 := n6_; clear n0_ n1_ n2_ n3_ n4_ n5_ n6_; clear hb hbox hg) | ((with_reducible refine Arr.gate_load (t := 42) (p := 2) rfl ?_); (try (refine gate_guard (by rfl) ?_; dsimp only)); refine Arr.loadA ?hg (T := 42) (p := 2) ?ho (g := gb146) (off := 0) ?hx (t := 42) (l := ((.bool a0_0) :: (.slice A0_1 l0_1.length c0_1) :: Arr.arL .i8 a0_2)) (m := ((.bool a0_0) :: (.slice A0_1 l0_1.length c0_1) :: Arr.arL .i8 a0_2)) (fr := (0, 0)) (show w13.heap[gb146]? = some (.cells (⟨(.bool a0_0) :: (.slice A0_1 l0_1.length c0_1) :: Arr.arL .i8 a0_2⟩ : Array Value) 42 (0, 0)) from by (with_reducible repeat (first | refine blk_drewN ?_ _ | refine blk_drew ?_ | refine blk_alloc ?_ _)); exact BK146.out) rfl Try.underlying42 rfl (n := 18) (by kernel_rfl) (by simp [Arr.arL_length]) ?_; (case hg => rfl); (case ho => rfl); (case hx => first | (go_simp; done) | rfl | (go_simp; rfl))) | ((with_reducible refine gate_callee (f := 27) rfl ?_); refine goesL_ (some 12) rfl rfl Try.func27 (by kernel_rfl) rfl #[.agg (⟨(.bool a0_0) :: (.slice A0_1 l0_1.length c0_1) :: Arr.arL .i8 a0_2⟩ : Array Value), .int .i64 1048576] rfl (by (try simp only [List.map_toArray, List.map_cons, List.map_nil]); first | done | (go_simp; done) | rfl | (simp only [List.length_drop, List.length_take]; rfl)) ?_; (with_reducible refine (laws_szHalf.calls a0_0 _ _ l0_1 a0_2 1048576 t148 _ ?side1 ?side2 A4.out).mono ?_); (case side1 => repeat (first | exact (Kd.C_below HR0_1.out HB.out) | (with_reducible refine Kd.C_alloc ?_ _) | (with_reducible refine Kd.C_drewN ?_ _) | (with_reducible refine Kd.C_drew ?_))); (case side2 => exact HC0_1.out); rintro e w14 ⟨rfl, hb⟩; refine ⟨_, rfl, ?_⟩; have n0_ := Aside0.mk (blk_below (g := gb146) (o := .cells (⟨(.bool a0_0) :: (.slice A0_1 l0_1.length c0_1) :: Arr.arL .i8 a0_2⟩ : Array Value) 42 (0, 0)) (by (with_reducible repeat (first | refine blk_drewN ?_ _ | refine blk_drew ?_ | refine blk_alloc ?_ _)); exact BK146.out) hb); have n1_ := Aside0.mk (blk_below (g := gb147) (o := .cells (⟨(.bool a1_0) :: (.slice A1_1 l1_1.length c1_1) :: Arr.arL .i8 a1_2⟩ : Array Value) 42 (0, 0)) (by (with_reducible repeat (first | refine blk_drewN ?_ _ | refine blk_drew ?_ | refine blk_alloc ?_ _)); exact BK147.out) hb); have n2_ := Aside0.mk (below_step (by repeat (first | (with_reducible first | exact HB.out | apply below_alloc | apply pw_below_drewN | apply below_drew1 | refine below_set ?_ GE146.out | refine below_set ?_ GE147.out) | exact HB.out)) hb); clear BK146; clear BK147; clear HB; have BK146 := n0_; have BK147 := n1_; have HB := n2_; clear n0_ n1_ n2_; (try clear hb); (try clear hb2); (try clear hk); (try clear hi)) | ((with_reducible refine Arr.gate_load (t := 42) (p := 3) rfl ?_); (try (refine gate_guard (by rfl) ?_; dsimp only)); refine Arr.loadA ?hg (T := 42) (p := 3) ?ho (g := gb147) (off := 0) ?hx (t := 42) (l := ((.bool a1_0) :: (.slice A1_1 l1_1.length c1_1) :: Arr.arL .i8 a1_2)) (m := ((.bool a1_0) :: (.slice A1_1 l1_1.length c1_1) :: Arr.arL .i8 a1_2)) (fr := (0, 0)) (show w14.heap[gb147]? = some (.cells (⟨(.bool a1_0) :: (.slice A1_1 l1_1.length c1_1) :: Arr.arL .i8 a1_2⟩ : Array Value) 42 (0, 0)) from by (with_reducible repeat (first | refine blk_drewN ?_ _ | refine blk_drew ?_ | refine blk_alloc ?_ _)); exact BK147.out) rfl Try.underlying42 rfl (n := 18) (by kernel_rfl) (by simp [Arr.arL_length]) ?_; (case hg => rfl); (case ho => rfl); (case hx => first | (go_simp; done) | rfl | (go_simp; rfl))) | ((with_reducible refine gate_callee (f := 27) rfl ?_); refine goesL_ (some 17) rfl rfl Try.func27 (by kernel_rfl) rfl #[.agg (⟨(.bool a1_0) :: (.slice A1_1 l1_1.length c1_1) :: Arr.arL .i8 a1_2⟩ : Array Value), .int .i64 t148] rfl (by (try simp only [List.map_toArray, List.map_cons, List.map_nil]); first | done | (go_simp; done) | rfl | (simp only [List.length_drop, List.length_take]; rfl)) ?_; (with_reducible refine (laws_szHalf.calls a1_0 _ _ l1_1 a1_2 t148 t149 _ ?side1 ?side2 A10.out).mono ?_); (case side1 => repeat (first | exact (Kd.C_below HR1_1.out HB.out) | (with_reducible refine Kd.C_alloc ?_ _) | (with_reducible refine Kd.C_drewN ?_ _) | (with_reducible refine Kd.C_drew ?_))); (case side2 => exact HC1_1.out); rintro e w15 ⟨rfl, hb⟩; refine ⟨_, rfl, ?_⟩; have n0_ := Aside0.mk (blk_below (g := gb146) (o := .cells (⟨(.bool a0_0) :: (.slice A0_1 l0_1.length c0_1) :: Arr.arL .i8 a0_2⟩ : Array Value) 42 (0, 0)) (by (with_reducible repeat (first | refine blk_drewN ?_ _ | refine blk_drew ?_ | refine blk_alloc ?_ _)); exact BK146.out) hb); have n1_ := Aside0.mk (blk_below (g := gb147) (o := .cells (⟨(.bool a1_0) :: (.slice A1_1 l1_1.length c1_1) :: Arr.arL .i8 a1_2⟩ : Array Value) 42 (0, 0)) (by (with_reducible repeat (first | refine blk_drewN ?_ _ | refine blk_drew ?_ | refine blk_alloc ?_ _)); exact BK147.out) hb); have n2_ := Aside0.mk (below_step (by repeat (first | (with_reducible first | exact HB.out | apply below_alloc | apply pw_below_drewN | apply below_drew1 | refine below_set ?_ GE146.out | refine below_set ?_ GE147.out) | exact HB.out)) hb); clear BK146; clear BK147; clear HB; have BK146 := n0_; have BK147 := n1_; have HB := n2_; clear n0_ n1_ n2_; (try clear hb); (try clear hb2); (try clear hk); (try clear hi)))
      go_ret
      exact ⟨by first | rfl | (simp [errW_none, errW_some] <;> rfl) | (simp [*, errW_none, errW_some] <;> rfl), by repeat (first | (with_reducible first | exact HB.out | apply below_alloc | apply pw_below_drewN | apply below_drew1 | refine below_set ?_ GE146.out | refine below_set ?_ GE147.out) | exact HB.out)⟩
    · rw [if_neg c11] at H
      have c11b0 : decide (t149 < 0) = false := decide_eq_false c11
      clear c11
      replace H := Option.bind_eq_some_iff.mp H
      obtain ⟨⟨t150, t151, t154⟩, A170, H⟩ := H
      replace H : ((laws_toHalf.f k a1_0 l1_1 a1_2).bind fun bt155 => ((spec_SameHalf.f k t150 t151 t154 bt155.1 bt155.2.1 bt155.2.2).bind fun t160 => ((laws_toHalf.f k a0_0 l0_1 a0_2).bind fun bt161 => ((laws_toHalf.f k a1_0 l1_1 a1_2).bind fun bt167 => ((impl_SameHalf.f k bt161.1 bt161.2.1 bt161.2.2 bt167.1 bt167.2.1 bt167.2.2).bind fun t173 => (if (t173 != t160) = true then (some false) else ((laws_toHalf.f k a0_0 l0_1 a0_2).bind fun bt174 => ((laws_eqHalf.f k bt161.1 bt161.2.1 bt161.2.2 bt174.1 bt174.2.1 bt174.2.2).bind fun t179 => (if t179 = true then ((laws_toHalf.f k a1_0 l1_1 a1_2).bind fun bt180 => ((laws_eqHalf.f k bt167.1 bt167.2.1 bt167.2.2 bt180.1 bt180.2.1 bt180.2.2).bind fun t185 => (if t185 = true then (some true) else (some false)))) else (some false)))))))))) = some r := H
      have A17 := Aside0.mk A170
      clear A170
      replace H := Option.bind_eq_some_iff.mp H
      obtain ⟨⟨t155, t156, t159⟩, A190, H⟩ := H
      replace H : ((spec_SameHalf.f k t150 t151 t154 t155 t156 t159).bind fun t160 => ((laws_toHalf.f k a0_0 l0_1 a0_2).bind fun bt161 => ((laws_toHalf.f k a1_0 l1_1 a1_2).bind fun bt167 => ((impl_SameHalf.f k bt161.1 bt161.2.1 bt161.2.2 bt167.1 bt167.2.1 bt167.2.2).bind fun t173 => (if (t173 != t160) = true then (some false) else ((laws_toHalf.f k a0_0 l0_1 a0_2).bind fun bt174 => ((laws_eqHalf.f k bt161.1 bt161.2.1 bt161.2.2 bt174.1 bt174.2.1 bt174.2.2).bind fun t179 => (if t179 = true then ((laws_toHalf.f k a1_0 l1_1 a1_2).bind fun bt180 => ((laws_eqHalf.f k bt167.1 bt167.2.1 bt167.2.2 bt180.1 bt180.2.1 bt180.2.2).bind fun t185 => (if t185 = true then (some true) else (some false)))) else (some false))))))))) = some r := H
      have A19 := Aside0.mk A190
      clear A190
      replace H := Option.bind_eq_some_iff.mp H
      obtain ⟨t160, A200, H⟩ := H
      replace H : ((laws_toHalf.f k a0_0 l0_1 a0_2).bind fun bt161 => ((laws_toHalf.f k a1_0 l1_1 a1_2).bind fun bt167 => ((impl_SameHalf.f k bt161.1 bt161.2.1 bt161.2.2 bt167.1 bt167.2.1 bt167.2.2).bind fun t173 => (if (t173 != t160) = true then (some false) else ((laws_toHalf.f k a0_0 l0_1 a0_2).bind fun bt174 => ((laws_eqHalf.f k bt161.1 bt161.2.1 bt161.2.2 bt174.1 bt174.2.1 bt174.2.2).bind fun t179 => (if t179 = true then ((laws_toHalf.f k a1_0 l1_1 a1_2).bind fun bt180 => ((laws_eqHalf.f k bt167.1 bt167.2.1 bt167.2.2 bt180.1 bt180.2.1 bt180.2.2).bind fun t185 => (if t185 = true then (some true) else (some false)))) else (some false)))))))) = some r := H
      have A20 := Aside0.mk A200
      clear A200
      replace H := Option.bind_eq_some_iff.mp H
      obtain ⟨⟨t161, t162, t165⟩, A220, H⟩ := H
      replace H : ((laws_toHalf.f k a1_0 l1_1 a1_2).bind fun bt167 => ((impl_SameHalf.f k t161 t162 t165 bt167.1 bt167.2.1 bt167.2.2).bind fun t173 => (if (t173 != t160) = true then (some false) else ((laws_toHalf.f k a0_0 l0_1 a0_2).bind fun bt174 => ((laws_eqHalf.f k t161 t162 t165 bt174.1 bt174.2.1 bt174.2.2).bind fun t179 => (if t179 = true then ((laws_toHalf.f k a1_0 l1_1 a1_2).bind fun bt180 => ((laws_eqHalf.f k bt167.1 bt167.2.1 bt167.2.2 bt180.1 bt180.2.1 bt180.2.2).bind fun t185 => (if t185 = true then (some true) else (some false)))) else (some false))))))) = some r := H
      have A22 := Aside0.mk A220
      clear A220
      replace H := Option.bind_eq_some_iff.mp H
      obtain ⟨⟨t167, t168, t171⟩, A250, H⟩ := H
      replace H : ((impl_SameHalf.f k t161 t162 t165 t167 t168 t171).bind fun t173 => (if (t173 != t160) = true then (some false) else ((laws_toHalf.f k a0_0 l0_1 a0_2).bind fun bt174 => ((laws_eqHalf.f k t161 t162 t165 bt174.1 bt174.2.1 bt174.2.2).bind fun t179 => (if t179 = true then ((laws_toHalf.f k a1_0 l1_1 a1_2).bind fun bt180 => ((laws_eqHalf.f k t167 t168 t171 bt180.1 bt180.2.1 bt180.2.2).bind fun t185 => (if t185 = true then (some true) else (some false)))) else (some false)))))) = some r := H
      have A25 := Aside0.mk A250
      clear A250
      replace H := Option.bind_eq_some_iff.mp H
      obtain ⟨t173, A290, H⟩ := H
      replace H : (if (t173 != t160) = true then (some false) else ((laws_toHalf.f k a0_0 l0_1 a0_2).bind fun bt174 => ((laws_eqHalf.f k t161 t162 t165 bt174.1 bt174.2.1 bt174.2.2).bind fun t179 => (if t179 = true then ((laws_toHalf.f k a1_0 l1_1 a1_2).bind fun bt180 => ((laws_eqHalf.f k t167 t168 t171 bt180.1 bt180.2.1 bt180.2.2).bind fun t185 => (if t185 = true then (some true) else (some false)))) else (some false))))) = some r := H
      have A29 := Aside0.mk A290
      clear A290
      by_cases c30 : (t173 != t160) = true
      · rw [if_pos c30] at H
        have c30b0 : (t173 != t160) = true := c30
        (try (have c30b1 : decide (t173 = t160) = false := by simpa using c30))
        (try (have c30b2 : (t173 == t160) = false := by simpa using c30))
        (try (have c30b3 : ¬ (t173 = t160) := by simpa using c30))
        clear c30
        obtain rfl := Option.some.inj H
        cases ht
      · rw [if_neg c30] at H
        have c30b0 : (t173 != t160) = false := by simpa using c30
        (try (have c30b1 : decide (t173 = t160) = true := by simpa using c30))
        (try (have c30b2 : (t173 == t160) = true := by simpa using c30))
        clear c30
        replace H := Option.bind_eq_some_iff.mp H
        obtain ⟨⟨t174, t175, t178⟩, A330, H⟩ := H
        replace H : ((laws_eqHalf.f k t161 t162 t165 t174 t175 t178).bind fun t179 => (if t179 = true then ((laws_toHalf.f k a1_0 l1_1 a1_2).bind fun bt180 => ((laws_eqHalf.f k t167 t168 t171 bt180.1 bt180.2.1 bt180.2.2).bind fun t185 => (if t185 = true then (some true) else (some false)))) else (some false))) = some r := H
        have A33 := Aside0.mk A330
        clear A330
        replace H := Option.bind_eq_some_iff.mp H
        obtain ⟨t179, A340, H⟩ := H
        replace H : (if t179 = true then ((laws_toHalf.f k a1_0 l1_1 a1_2).bind fun bt180 => ((laws_eqHalf.f k t167 t168 t171 bt180.1 bt180.2.1 bt180.2.2).bind fun t185 => (if t185 = true then (some true) else (some false)))) else (some false)) = some r := H
        have A34 := Aside0.mk A340
        clear A340
        by_cases c35 : t179 = true
        · subst c35
          have H1 : ((laws_toHalf.f k a1_0 l1_1 a1_2).bind fun bt180 => ((laws_eqHalf.f k t167 t168 t171 bt180.1 bt180.2.1 bt180.2.2).bind fun t185 => (if t185 = true then (some true) else (some false)))) = some r := by rw [if_pos rfl] at H; exact H
          clear H
          have H := H1
          clear H1
          replace H := Option.bind_eq_some_iff.mp H
          obtain ⟨⟨t180, t181, t184⟩, A380, H⟩ := H
          replace H : ((laws_eqHalf.f k t167 t168 t171 t180 t181 t184).bind fun t185 => (if t185 = true then (some true) else (some false))) = some r := H
          have A38 := Aside0.mk A380
          clear A380
          replace H := Option.bind_eq_some_iff.mp H
          obtain ⟨t185, A390, H⟩ := H
          replace H : (if t185 = true then (some true) else (some false)) = some r := H
          have A39 := Aside0.mk A390
          clear A390
          by_cases c40 : t185 = true
          · subst c40
            have H1 : (some true) = some r := by rw [if_pos rfl] at H; exact H
            clear H
            have H := H1
            clear H1
            obtain rfl := Option.some.inj H
            go_enter Try.func8, Try.ntmps8
            try go_wp2_with (first | ((with_reducible refine gate_dst (N := 2) rfl ?_); refine box_event ?hg (N := 2) ?hd (cs := (⟨(.bool a0_0) :: (.slice A0_1 l0_1.length c0_1) :: Arr.arL .i8 a0_2⟩ : Array Value)) (t := 42) ?hr ?_; (case hd => rfl); (case hg => rfl); (case hr => first | (go_simp; done) | (go_simp; rfl)); intro gb146 hg w41 hbox hb; have n0_ := Aside0.mk (below_step (by repeat (first | (with_reducible first | exact HB.out | apply below_alloc | apply pw_below_drewN | apply below_drew1) | exact HB.out)) hb); have n1_ := Aside0.mk (hbox); have n2_ := Aside0.mk ((by rw [hg]; exact (below_size (by repeat (first | (with_reducible first | exact HB.out | apply below_alloc | apply pw_below_drewN | apply below_drew1) | exact HB.out))) : w.heap.size ≤ gb146)); have n3_ := Aside0.mk ((by rw [hg]; exact (below_size (by repeat (first | (with_reducible first | exact HB.out | apply below_alloc | apply pw_below_drewN | apply below_drew1) | exact HB.out))) : w.heap.size ≤ gb146)); clear HB; have HB := n0_; have BK146 := n1_; have GW146 := n2_; have GE146 := n3_; clear n0_ n1_ n2_ n3_; clear hb hbox hg) | ((with_reducible refine gate_dst (N := 3) rfl ?_); refine box_event ?hg (N := 3) ?hd (cs := (⟨(.bool a1_0) :: (.slice A1_1 l1_1.length c1_1) :: Arr.arL .i8 a1_2⟩ : Array Value)) (t := 42) ?hr ?_; (case hd => rfl); (case hg => rfl); (case hr => first | (go_simp; done) | (go_simp; rfl)); intro gb147 hg w42 hbox hb; have n0_ := Aside0.mk (blk_below (g := gb146) (o := .cells (⟨(.bool a0_0) :: (.slice A0_1 l0_1.length c0_1) :: Arr.arL .i8 a0_2⟩ : Array Value) 42 (0, 0)) (by (with_reducible repeat (first | refine blk_drewN ?_ _ | refine blk_drew ?_ | refine blk_alloc ?_ _)); exact BK146.out) hb); have n1_ := Aside0.mk (below_step (by repeat (first | (with_reducible first | exact HB.out | apply below_alloc | apply pw_below_drewN | apply below_drew1 | refine below_set ?_ GE146.out) | exact HB.out)) hb); have n2_ := Aside0.mk (hbox); have n3_ := Aside0.mk ((by rw [hg]; exact (below_size (by repeat (first | (with_reducible first | exact HB.out | apply below_alloc | apply pw_below_drewN | apply below_drew1 | refine below_set ?_ GE146.out) | exact HB.out))) : w.heap.size ≤ gb147)); have n4_ := Aside0.mk ((by rw [hg]; exact (below_size (by repeat (first | (with_reducible first | exact HB.out | apply below_alloc | apply pw_below_drewN | apply below_drew1 | refine below_set ?_ GE146.out) | exact HB.out))) : w.heap.size ≤ gb147)); have n5_ := Aside0.mk ((by rw [hg]; exact Nat.ne_of_lt (blk_lt (g := gb146) (o := .cells (⟨(.bool a0_0) :: (.slice A0_1 l0_1.length c0_1) :: Arr.arL .i8 a0_2⟩ : Array Value) 42 (0, 0)) (by (with_reducible repeat (first | refine blk_drewN ?_ _ | refine blk_drew ?_ | refine blk_alloc ?_ _)); exact BK146.out)) : gb146 ≠ gb147)); have n6_ := Aside0.mk ((by rw [hg]; exact Nat.ne_of_gt (blk_lt (g := gb146) (o := .cells (⟨(.bool a0_0) :: (.slice A0_1 l0_1.length c0_1) :: Arr.arL .i8 a0_2⟩ : Array Value) 42 (0, 0)) (by (with_reducible repeat (first | refine blk_drewN ?_ _ | refine blk_drew ?_ | refine blk_alloc ?_ _)); exact BK146.out)) : gb147 ≠ gb146)); clear BK146; clear HB; have BK146 := n0_; have HB := n1_; have BK147 := n2_; have GW147 := n3_; have GE147 := n4_; have NB146_147 := n5_; have NB147_146 := n6_; clear n0_ n1_ n2_ n3_ n4_ n5_ n6_; clear hb hbox hg) | ((with_reducible refine Arr.gate_load (t := 42) (p := 2) rfl ?_); (try (refine gate_guard (by rfl) ?_; dsimp only)); refine Arr.loadA ?hg (T := 42) (p := 2) ?ho (g := gb146) (off := 0) ?hx (t := 42) (l := ((.bool a0_0) :: (.slice A0_1 l0_1.length c0_1) :: Arr.arL .i8 a0_2)) (m := ((.bool a0_0) :: (.slice A0_1 l0_1.length c0_1) :: Arr.arL .i8 a0_2)) (fr := (0, 0)) (show w42.heap[gb146]? = some (.cells (⟨(.bool a0_0) :: (.slice A0_1 l0_1.length c0_1) :: Arr.arL .i8 a0_2⟩ : Array Value) 42 (0, 0)) from by (with_reducible repeat (first | refine blk_drewN ?_ _ | refine blk_drew ?_ | refine blk_alloc ?_ _)); exact BK146.out) rfl Try.underlying42 rfl (n := 18) (by kernel_rfl) (by simp [Arr.arL_length]) ?_; (case hg => rfl); (case ho => rfl); (case hx => first | (go_simp; done) | rfl | (go_simp; rfl))) | ((with_reducible refine gate_callee (f := 27) rfl ?_); refine goesL_ (some 12) rfl rfl Try.func27 (by kernel_rfl) rfl #[.agg (⟨(.bool a0_0) :: (.slice A0_1 l0_1.length c0_1) :: Arr.arL .i8 a0_2⟩ : Array Value), .int .i64 1048576] rfl (by (try simp only [List.map_toArray, List.map_cons, List.map_nil]); first | done | (go_simp; done) | rfl | (simp only [List.length_drop, List.length_take]; rfl)) ?_; (with_reducible refine (laws_szHalf.calls a0_0 _ _ l0_1 a0_2 1048576 t148 _ ?side1 ?side2 A4.out).mono ?_); (case side1 => repeat (first | exact (Kd.C_below HR0_1.out HB.out) | (with_reducible refine Kd.C_alloc ?_ _) | (with_reducible refine Kd.C_drewN ?_ _) | (with_reducible refine Kd.C_drew ?_))); (case side2 => exact HC0_1.out); rintro e w43 ⟨rfl, hb⟩; refine ⟨_, rfl, ?_⟩; have n0_ := Aside0.mk (blk_below (g := gb146) (o := .cells (⟨(.bool a0_0) :: (.slice A0_1 l0_1.length c0_1) :: Arr.arL .i8 a0_2⟩ : Array Value) 42 (0, 0)) (by (with_reducible repeat (first | refine blk_drewN ?_ _ | refine blk_drew ?_ | refine blk_alloc ?_ _)); exact BK146.out) hb); have n1_ := Aside0.mk (blk_below (g := gb147) (o := .cells (⟨(.bool a1_0) :: (.slice A1_1 l1_1.length c1_1) :: Arr.arL .i8 a1_2⟩ : Array Value) 42 (0, 0)) (by (with_reducible repeat (first | refine blk_drewN ?_ _ | refine blk_drew ?_ | refine blk_alloc ?_ _)); exact BK147.out) hb); have n2_ := Aside0.mk (below_step (by repeat (first | (with_reducible first | exact HB.out | apply below_alloc | apply pw_below_drewN | apply below_drew1 | refine below_set ?_ GE146.out | refine below_set ?_ GE147.out) | exact HB.out)) hb); clear BK146; clear BK147; clear HB; have BK146 := n0_; have BK147 := n1_; have HB := n2_; clear n0_ n1_ n2_; (try clear hb); (try clear hb2); (try clear hk); (try clear hi)) | ((with_reducible refine Arr.gate_load (t := 42) (p := 3) rfl ?_); (try (refine gate_guard (by rfl) ?_; dsimp only)); refine Arr.loadA ?hg (T := 42) (p := 3) ?ho (g := gb147) (off := 0) ?hx (t := 42) (l := ((.bool a1_0) :: (.slice A1_1 l1_1.length c1_1) :: Arr.arL .i8 a1_2)) (m := ((.bool a1_0) :: (.slice A1_1 l1_1.length c1_1) :: Arr.arL .i8 a1_2)) (fr := (0, 0)) (show w43.heap[gb147]? = some (.cells (⟨(.bool a1_0) :: (.slice A1_1 l1_1.length c1_1) :: Arr.arL .i8 a1_2⟩ : Array Value) 42 (0, 0)) from by (with_reducible repeat (first | refine blk_drewN ?_ _ | refine blk_drew ?_ | refine blk_alloc ?_ _)); exact BK147.out) rfl Try.underlying42 rfl (n := 18) (by kernel_rfl) (by simp [Arr.arL_length]) ?_; (case hg => rfl); (case ho => rfl); (case hx => first | (go_simp; done) | rfl | (go_simp; rfl))) | ((with_reducible refine gate_callee (f := 27) rfl ?_); refine goesL_ (some 17) rfl rfl Try.func27 (by kernel_rfl) rfl #[.agg (⟨(.bool a1_0) :: (.slice A1_1 l1_1.length c1_1) :: Arr.arL .i8 a1_2⟩ : Array Value), .int .i64 t148] rfl (by (try simp only [List.map_toArray, List.map_cons, List.map_nil]); first | done | (go_simp; done) | rfl | (simp only [List.length_drop, List.length_take]; rfl)) ?_; (with_reducible refine (laws_szHalf.calls a1_0 _ _ l1_1 a1_2 t148 t149 _ ?side1 ?side2 A10.out).mono ?_); (case side1 => repeat (first | exact (Kd.C_below HR1_1.out HB.out) | (with_reducible refine Kd.C_alloc ?_ _) | (with_reducible refine Kd.C_drewN ?_ _) | (with_reducible refine Kd.C_drew ?_))); (case side2 => exact HC1_1.out); rintro e w44 ⟨rfl, hb⟩; refine ⟨_, rfl, ?_⟩; have n0_ := Aside0.mk (blk_below (g := gb146) (o := .cells (⟨(.bool a0_0) :: (.slice A0_1 l0_1.length c0_1) :: Arr.arL .i8 a0_2⟩ : Array Value) 42 (0, 0)) (by (with_reducible repeat (first | refine blk_drewN ?_ _ | refine blk_drew ?_ | refine blk_alloc ?_ _)); exact BK146.out) hb); have n1_ := Aside0.mk (blk_below (g := gb147) (o := .cells (⟨(.bool a1_0) :: (.slice A1_1 l1_1.length c1_1) :: Arr.arL .i8 a1_2⟩ : Array Value) 42 (0, 0)) (by (with_reducible repeat (first | refine blk_drewN ?_ _ | refine blk_drew ?_ | refine blk_alloc ?_ _)); exact BK147.out) hb); have n2_ := Aside0.mk (below_step (by repeat (first | (with_reducible first | exact HB.out | apply below_alloc | apply pw_below_drewN | apply below_drew1 | refine below_set ?_ GE146.out | refine below_set ?_ GE147.out) | exact HB.out)) hb); clear BK146; clear BK147; clear HB; have BK146 := n0_; have BK147 := n1_; have HB := n2_; clear n0_ n1_ n2_; (try clear hb); (try clear hb2); (try clear hk); (try clear hi)))
            have n0_ := Aside0.mk (blk_drew BK146.out)
            have n1_ := Aside0.mk (blk_drew BK147.out)
            have n2_ := Aside0.mk (below_drew1 HB.out)
            clear BK146
            clear BK147
            clear HB
            have BK146 := n0_
            have BK147 := n1_
            have HB := n2_
            clear n0_ n1_ n2_
            refine start_ (n := 6) (S := fun w' => w'.heap[gb146]? = some (.cells (⟨(.bool a0_0) :: (.slice A0_1 l0_1.length c0_1) :: Arr.arL .i8 a0_2⟩ : Array Value) 42 (0, 0)) ∧ w'.heap[gb147]? = some (.cells (⟨(.bool a1_0) :: (.slice A1_1 l1_1.length c1_1) :: Arr.arL .i8 a1_2⟩ : Array Value) 42 (0, 0))) (ds := []) #[false, false, false, false, false, false] (by kernel_rfl) rfl rfl ⟨BK146.out, BK147.out⟩ (fun hHeld => ?_)
            generalize w44.drew = w45 at BK146 BK147 HB hHeld ⊢
            refine take_ (i := 0) (N := some 20) (v := ?_) (a' := ?_) #[true, false, false, false, false, false] rfl rfl (by kernel_rfl) (fun _ _ _ h => h) (Or.inl ⟨by rfl, ?_⟩) hHeld ?_ ?_
            rotate_left
            · rintro w' ⟨s0, s1⟩
              refine Arr.exec_load (T := 42) (p := 2) (g := gb146) (off := 0) (t := 42) (l := ((.bool a0_0) :: (.slice A0_1 l0_1.length c0_1) :: Arr.arL .i8 a0_2)) (m := ((.bool a0_0) :: (.slice A0_1 l0_1.length c0_1) :: Arr.arL .i8 a0_2)) (fr := (0, 0)) (n := 18) ?_ ?_ s0 ?_ Try.underlying42 ?_ ?_ ?_
              · rfl
              · first | (go_simp; done) | rfl | (go_simp; rfl)
              · rfl
              · rfl
              · kernel_rfl
              · simp [Arr.arL_length]
            rotate_left
            · simp only [Act.put, List.setIfInBounds_toArray, List.set_cons_zero, List.set_cons_succ, i64_w, i32_w]
              rfl
            refine take_ (i := 2) (N := some 22) (v := ?_) (a' := ?_) #[true, false, true, false, false, false] rfl rfl (by kernel_rfl) (fun _ _ _ h => h) (Or.inl ⟨by rfl, ?_⟩) hHeld ?_ ?_
            rotate_left
            · rintro w' ⟨s0, s1⟩
              refine Arr.exec_load (T := 42) (p := 3) (g := gb147) (off := 0) (t := 42) (l := ((.bool a1_0) :: (.slice A1_1 l1_1.length c1_1) :: Arr.arL .i8 a1_2)) (m := ((.bool a1_0) :: (.slice A1_1 l1_1.length c1_1) :: Arr.arL .i8 a1_2)) (fr := (0, 0)) (n := 18) ?_ ?_ s1 ?_ Try.underlying42 ?_ ?_ ?_
              · rfl
              · first | (go_simp; done) | rfl | (go_simp; rfl)
              · rfl
              · rfl
              · kernel_rfl
              · simp [Arr.arL_length]
            rotate_left
            · simp only [Act.put, List.setIfInBounds_toArray, List.set_cons_zero, List.set_cons_succ, i64_w, i32_w]
              rfl
            refine one_ (i := 1) (N := some 21) #[true, true, true, false, false, false] rfl rfl (by kernel_rfl) (by decide) (fun K hK => ?_)
            refine goes_ Try.func29 (by kernel_rfl) rfl #[.agg (⟨(.bool a0_0) :: (.slice A0_1 l0_1.length c0_1) :: Arr.arL .i8 a0_2⟩ : Array Value)] (by rfl) rfl rfl (by (try simp only [List.map_toArray, List.map_cons, List.map_nil]); first | done | (go_simp; done) | rfl | (simp only [List.length_drop, List.length_take]; rfl)) ?_
            with_reducible refine (laws_toHalf.calls k a0_0 _ _ l0_1 a0_2 t150 t151 t154 _ ?side1 ?side2 A17.out).mono ?_
            (case side1 => repeat (first | exact (Kd.C_below HR0_1.out HB.out) | (with_reducible refine Kd.C_alloc ?_ _) | (with_reducible refine Kd.C_drewN ?_ _) | (with_reducible refine Kd.C_drew ?_)))
            (case side2 => exact HC0_1.out)
            rintro e w46 ⟨v152, rfl, ho0, hb⟩
            refine ⟨_, rfl, ?_⟩
            have n0_ := Aside0.mk (Kd.R_lower ho0 (below_size (by repeat (first | (with_reducible first | exact HB.out | apply below_alloc | apply pw_below_drewN | apply below_drew1 | refine below_set ?_ GE146.out | refine below_set ?_ GE147.out) | exact HB.out))))
            have n1_ := Aside0.mk (blk_below (g := gb146) (o := .cells (⟨(.bool a0_0) :: (.slice A0_1 l0_1.length c0_1) :: Arr.arL .i8 a0_2⟩ : Array Value) 42 (0, 0)) (by (with_reducible repeat (first | refine blk_drewN ?_ _ | refine blk_drew ?_ | refine blk_alloc ?_ _)); exact BK146.out) hb)
            have n2_ := Aside0.mk (blk_below (g := gb147) (o := .cells (⟨(.bool a1_0) :: (.slice A1_1 l1_1.length c1_1) :: Arr.arL .i8 a1_2⟩ : Array Value) 42 (0, 0)) (by (with_reducible repeat (first | refine blk_drewN ?_ _ | refine blk_drew ?_ | refine blk_alloc ?_ _)); exact BK147.out) hb)
            have n3_ := Aside0.mk (below_step (by repeat (first | (with_reducible first | exact HB.out | apply below_alloc | apply pw_below_drewN | apply below_drew1 | refine below_set ?_ GE146.out | refine below_set ?_ GE147.out) | exact HB.out)) hb)
            clear BK146
            clear BK147
            clear HB
            have HO153 := n0_
            have BK146 := n1_
            have BK147 := n2_
            have HB := n3_
            clear n0_ n1_ n2_ n3_
            (try clear hb)
            (try clear hb2)
            (try clear hk)
            (try clear hi)
            (try clear ho0)
            refine hK.out _ _ ⟨BK146.out, BK147.out⟩ (fun hHeld => ?_)
            clear hK K
            refine norm_ (a' := ?_) ?_ ?_
            rotate_left
            · show Act.put _ (some 21) _ = _
              simp only [Act.put, List.setIfInBounds_toArray, List.set_cons_zero, List.set_cons_succ, i64_w, i32_w]
              rfl
            refine one_ (i := 3) (N := some 23) #[true, true, true, true, false, false] rfl rfl (by kernel_rfl) (by decide) (fun K hK => ?_)
            refine goes_ Try.func29 (by kernel_rfl) rfl #[.agg (⟨(.bool a1_0) :: (.slice A1_1 l1_1.length c1_1) :: Arr.arL .i8 a1_2⟩ : Array Value)] (by rfl) rfl rfl (by (try simp only [List.map_toArray, List.map_cons, List.map_nil]); first | done | (go_simp; done) | rfl | (simp only [List.length_drop, List.length_take]; rfl)) ?_
            with_reducible refine (laws_toHalf.calls k a1_0 _ _ l1_1 a1_2 t155 t156 t159 _ ?side1 ?side2 A19.out).mono ?_
            (case side1 => repeat (first | exact (Kd.C_below HR1_1.out HB.out) | (with_reducible refine Kd.C_alloc ?_ _) | (with_reducible refine Kd.C_drewN ?_ _) | (with_reducible refine Kd.C_drew ?_)))
            (case side2 => exact HC1_1.out)
            rintro e w47 ⟨v157, rfl, ho0, hb⟩
            refine ⟨_, rfl, ?_⟩
            have n0_ := Aside0.mk (Kd.R_elder' (by (with_reducible repeat (first | apply Kd.R_alloc | apply Kd.R_drewN | apply Kd.R_drew)); exact HO153.out) (Kd.R_base ho0) hb)
            have n1_ := Aside0.mk (Kd.R_lower (Kd.R_new' ho0 (Kd.R_lt (by (with_reducible repeat (first | apply Kd.R_alloc | apply Kd.R_drewN | apply Kd.R_drew)); exact HO153.out))) (below_size (by repeat (first | (with_reducible first | exact HB.out | apply below_alloc | apply pw_below_drewN | apply below_drew1 | refine below_set ?_ GE146.out | refine below_set ?_ GE147.out) | exact HB.out))))
            have n2_ := Aside0.mk (blk_below (g := gb146) (o := .cells (⟨(.bool a0_0) :: (.slice A0_1 l0_1.length c0_1) :: Arr.arL .i8 a0_2⟩ : Array Value) 42 (0, 0)) (by (with_reducible repeat (first | refine blk_drewN ?_ _ | refine blk_drew ?_ | refine blk_alloc ?_ _)); exact BK146.out) hb)
            have n3_ := Aside0.mk (blk_below (g := gb147) (o := .cells (⟨(.bool a1_0) :: (.slice A1_1 l1_1.length c1_1) :: Arr.arL .i8 a1_2⟩ : Array Value) 42 (0, 0)) (by (with_reducible repeat (first | refine blk_drewN ?_ _ | refine blk_drew ?_ | refine blk_alloc ?_ _)); exact BK147.out) hb)
            have n4_ := Aside0.mk (below_step (by repeat (first | (with_reducible first | exact HB.out | apply below_alloc | apply pw_below_drewN | apply below_drew1 | refine below_set ?_ GE146.out | refine below_set ?_ GE147.out) | exact HB.out)) hb)
            clear HO153
            clear BK146
            clear BK147
            clear HB
            have HO153 := n0_
            have HO158 := n1_
            have BK146 := n2_
            have BK147 := n3_
            have HB := n4_
            clear n0_ n1_ n2_ n3_ n4_
            (try clear hb)
            (try clear hb2)
            (try clear hk)
            (try clear hi)
            (try clear ho0)
            obtain ⟨Ao48, co48, eo48⟩ := Kd.R_slice HO153.out
            (first | subst eo48 | (injection eo48 with f1_ f2_ f3_; have f4_ := f1_.symm; have f5_ := f3_.symm; clear f1_ f2_ f3_; subst f4_; subst f5_))
            obtain ⟨Ao49, co49, eo49⟩ := Kd.R_slice HO158.out
            (first | subst eo49 | (injection eo49 with f1_ f2_ f3_; have f4_ := f1_.symm; have f5_ := f3_.symm; clear f1_ f2_ f3_; subst f4_; subst f5_))
            refine hK.out _ _ ⟨BK146.out, BK147.out⟩ (fun hHeld => ?_)
            clear hK K
            refine norm_ (a' := ?_) ?_ ?_
            rotate_left
            · show Act.put _ (some 23) _ = _
              simp only [Act.put, List.setIfInBounds_toArray, List.set_cons_zero, List.set_cons_succ, i64_w, i32_w]
              rfl
            refine one_ (i := 4) (N := some 24) #[true, true, true, true, true, false] rfl rfl (by kernel_rfl) (by decide) (fun K hK => ?_)
            refine goes_ Try.func28 (by kernel_rfl) rfl #[.agg (⟨(.bool t150) :: (.slice Ao48 t151.length co48) :: Arr.arL .i8 t154⟩ : Array Value), .agg (⟨(.bool t155) :: (.slice Ao49 t156.length co49) :: Arr.arL .i8 t159⟩ : Array Value)] (by rfl) rfl rfl (by (try simp only [List.map_toArray, List.map_cons, List.map_nil]); first | done | (go_simp; done) | rfl | (simp only [List.length_drop, List.length_take]; rfl)) ?_
            with_reducible refine (spec_SameHalf.calls k t150 _ _ t151 t154 t155 _ _ t156 t159 t160 _ ?side1 ?side2 ?side3 ?side4 A20.out).mono ?_
            (case side1 => repeat (first | exact (Kd.R_reads' HO153.out).2.2 | (with_reducible refine Kd.C_alloc ?_ _) | (with_reducible refine Kd.C_drewN ?_ _) | (with_reducible refine Kd.C_drew ?_)))
            (case side2 => exact (Kd.R_reads' HO153.out).2.1)
            (case side3 => repeat (first | exact (Kd.R_reads' HO158.out).2.2 | (with_reducible refine Kd.C_alloc ?_ _) | (with_reducible refine Kd.C_drewN ?_ _) | (with_reducible refine Kd.C_drew ?_)))
            (case side4 => exact (Kd.R_reads' HO158.out).2.1)
            rintro e w50 ⟨rfl, hb⟩
            refine ⟨_, rfl, ?_⟩
            have n0_ := Aside0.mk (Kd.R_below (by (with_reducible repeat (first | apply Kd.R_alloc | apply Kd.R_drewN | apply Kd.R_drew)); exact HO153.out) hb)
            have n1_ := Aside0.mk (Kd.R_below (by (with_reducible repeat (first | apply Kd.R_alloc | apply Kd.R_drewN | apply Kd.R_drew)); exact HO158.out) hb)
            have n2_ := Aside0.mk (blk_below (g := gb146) (o := .cells (⟨(.bool a0_0) :: (.slice A0_1 l0_1.length c0_1) :: Arr.arL .i8 a0_2⟩ : Array Value) 42 (0, 0)) (by (with_reducible repeat (first | refine blk_drewN ?_ _ | refine blk_drew ?_ | refine blk_alloc ?_ _)); exact BK146.out) hb)
            have n3_ := Aside0.mk (blk_below (g := gb147) (o := .cells (⟨(.bool a1_0) :: (.slice A1_1 l1_1.length c1_1) :: Arr.arL .i8 a1_2⟩ : Array Value) 42 (0, 0)) (by (with_reducible repeat (first | refine blk_drewN ?_ _ | refine blk_drew ?_ | refine blk_alloc ?_ _)); exact BK147.out) hb)
            have n4_ := Aside0.mk (below_step (by repeat (first | (with_reducible first | exact HB.out | apply below_alloc | apply pw_below_drewN | apply below_drew1 | refine below_set ?_ GE146.out | refine below_set ?_ GE147.out) | exact HB.out)) hb)
            clear HO153
            clear HO158
            clear BK146
            clear BK147
            clear HB
            have HO153 := n0_
            have HO158 := n1_
            have BK146 := n2_
            have BK147 := n3_
            have HB := n4_
            clear n0_ n1_ n2_ n3_ n4_
            (try clear hb)
            (try clear hb2)
            (try clear hk)
            (try clear hi)
            refine hK.out _ _ ⟨BK146.out, BK147.out⟩ (fun hHeld => ?_)
            clear hK K
            refine norm_ (a' := ?_) ?_ ?_
            rotate_left
            · show Act.put _ (some 24) _ = _
              simp only [Act.put, List.setIfInBounds_toArray, List.set_cons_zero, List.set_cons_succ, i64_w, i32_w]
              rfl
            refine pure_ (i := 5) (N := some 6) (v := ?_) (a' := ?_) #[true, true, true, true, true, true] rfl rfl (by kernel_rfl) (fun _ _ _ h => h) (Or.inl ⟨by rfl, ?_⟩) ?_ ?_
            rotate_left
            · intro w'
              go_simp
              with_reducible rfl
            rotate_left
            · simp only [Act.put, List.setIfInBounds_toArray, List.set_cons_zero, List.set_cons_succ, i64_w, i32_w]
              rfl
            refine done_ (by kernel_rfl) ?_
            try go_wp2_with (first | ((with_reducible refine Arr.gate_load (t := 42) (p := 2) rfl ?_); (try (refine gate_guard (by rfl) ?_; dsimp only)); refine Arr.loadA ?hg (T := 42) (p := 2) ?ho (g := gb146) (off := 0) ?hx (t := 42) (l := ((.bool a0_0) :: (.slice A0_1 l0_1.length c0_1) :: Arr.arL .i8 a0_2)) (m := ((.bool a0_0) :: (.slice A0_1 l0_1.length c0_1) :: Arr.arL .i8 a0_2)) (fr := (0, 0)) (show w50.heap[gb146]? = some (.cells (⟨(.bool a0_0) :: (.slice A0_1 l0_1.length c0_1) :: Arr.arL .i8 a0_2⟩ : Array Value) 42 (0, 0)) from by (with_reducible repeat (first | refine blk_drewN ?_ _ | refine blk_drew ?_ | refine blk_alloc ?_ _)); exact BK146.out) rfl Try.underlying42 rfl (n := 18) (by kernel_rfl) (by simp [Arr.arL_length]) ?_; (case hg => rfl); (case ho => rfl); (case hx => first | (go_simp; done) | rfl | (go_simp; rfl))) | ((with_reducible refine gate_callee (f := 29) rfl ?_); refine goesL_ (some 26) rfl rfl Try.func29 (by kernel_rfl) rfl #[.agg (⟨(.bool a0_0) :: (.slice A0_1 l0_1.length c0_1) :: Arr.arL .i8 a0_2⟩ : Array Value)] rfl (by (try simp only [List.map_toArray, List.map_cons, List.map_nil]); first | done | (go_simp; done) | rfl | (simp only [List.length_drop, List.length_take]; rfl)) ?_; (with_reducible refine (laws_toHalf.calls k a0_0 _ _ l0_1 a0_2 t161 t162 t165 _ ?side1 ?side2 A22.out).mono ?_); (case side1 => repeat (first | exact (Kd.C_below HR0_1.out HB.out) | (with_reducible refine Kd.C_alloc ?_ _) | (with_reducible refine Kd.C_drewN ?_ _) | (with_reducible refine Kd.C_drew ?_))); (case side2 => exact HC0_1.out); rintro e w51 ⟨v163, rfl, ho0, hb⟩; refine ⟨_, rfl, ?_⟩; have n0_ := Aside0.mk (Kd.R_elder' (by (with_reducible repeat (first | apply Kd.R_alloc | apply Kd.R_drewN | apply Kd.R_drew)); exact HO153.out) (Kd.R_base ho0) hb); have n1_ := Aside0.mk (Kd.R_elder' (by (with_reducible repeat (first | apply Kd.R_alloc | apply Kd.R_drewN | apply Kd.R_drew)); exact HO158.out) (Kd.R_base ho0) hb); have n2_ := Aside0.mk (Kd.R_lower (Kd.R_new' (Kd.R_new' ho0 (Kd.R_lt (by (with_reducible repeat (first | apply Kd.R_alloc | apply Kd.R_drewN | apply Kd.R_drew)); exact HO153.out))) (Kd.R_lt (by (with_reducible repeat (first | apply Kd.R_alloc | apply Kd.R_drewN | apply Kd.R_drew)); exact HO158.out))) (below_size (by repeat (first | (with_reducible first | exact HB.out | apply below_alloc | apply pw_below_drewN | apply below_drew1 | refine below_set ?_ GE146.out | refine below_set ?_ GE147.out) | exact HB.out)))); have n3_ := Aside0.mk (blk_below (g := gb146) (o := .cells (⟨(.bool a0_0) :: (.slice A0_1 l0_1.length c0_1) :: Arr.arL .i8 a0_2⟩ : Array Value) 42 (0, 0)) (by (with_reducible repeat (first | refine blk_drewN ?_ _ | refine blk_drew ?_ | refine blk_alloc ?_ _)); exact BK146.out) hb); have n4_ := Aside0.mk (blk_below (g := gb147) (o := .cells (⟨(.bool a1_0) :: (.slice A1_1 l1_1.length c1_1) :: Arr.arL .i8 a1_2⟩ : Array Value) 42 (0, 0)) (by (with_reducible repeat (first | refine blk_drewN ?_ _ | refine blk_drew ?_ | refine blk_alloc ?_ _)); exact BK147.out) hb); have n5_ := Aside0.mk (below_step (by repeat (first | (with_reducible first | exact HB.out | apply below_alloc | apply pw_below_drewN | apply below_drew1 | refine below_set ?_ GE146.out | refine below_set ?_ GE147.out) | exact HB.out)) hb); clear HO153; clear HO158; clear BK146; clear BK147; clear HB; have HO153 := n0_; have HO158 := n1_; have HO164 := n2_; have BK146 := n3_; have BK147 := n4_; have HB := n5_; clear n0_ n1_ n2_ n3_ n4_ n5_; (try clear hb); (try clear hb2); (try clear hk); (try clear hi); (try clear ho0)) | ((with_reducible refine gate_dst (N := 7) rfl ?_); refine box_event ?hg (N := 7) ?hd (cs := (⟨(.bool false) :: (.slice none 0 0) :: Arr.arL .i8 (Vector.replicate 16 0 : Vector Int 16)⟩ : Array Value)) (t := 47) ?hr ?_; (case hd => rfl); (case hg => rfl); (case hr => first | (go_simp; done) | (go_simp; rfl)); intro gb166 hg w52 hbox hb; have n0_ := Aside0.mk (Kd.R_below (by (with_reducible repeat (first | apply Kd.R_alloc | apply Kd.R_drewN | apply Kd.R_drew)); exact HO153.out) hb); have n1_ := Aside0.mk (Kd.R_below (by (with_reducible repeat (first | apply Kd.R_alloc | apply Kd.R_drewN | apply Kd.R_drew)); exact HO158.out) hb); have n2_ := Aside0.mk (Kd.R_below (by (with_reducible repeat (first | apply Kd.R_alloc | apply Kd.R_drewN | apply Kd.R_drew)); exact HO164.out) hb); have n3_ := Aside0.mk (blk_below (g := gb146) (o := .cells (⟨(.bool a0_0) :: (.slice A0_1 l0_1.length c0_1) :: Arr.arL .i8 a0_2⟩ : Array Value) 42 (0, 0)) (by (with_reducible repeat (first | refine blk_drewN ?_ _ | refine blk_drew ?_ | refine blk_alloc ?_ _)); exact BK146.out) hb); have n4_ := Aside0.mk (blk_below (g := gb147) (o := .cells (⟨(.bool a1_0) :: (.slice A1_1 l1_1.length c1_1) :: Arr.arL .i8 a1_2⟩ : Array Value) 42 (0, 0)) (by (with_reducible repeat (first | refine blk_drewN ?_ _ | refine blk_drew ?_ | refine blk_alloc ?_ _)); exact BK147.out) hb); have n5_ := Aside0.mk (below_step (by repeat (first | (with_reducible first | exact HB.out | apply below_alloc | apply pw_below_drewN | apply below_drew1 | refine below_set ?_ GE146.out | refine below_set ?_ GE147.out) | exact HB.out)) hb); have n6_ := Aside0.mk (hbox); have n7_ := Aside0.mk ((by rw [hg]; exact (below_size (by repeat (first | (with_reducible first | exact HB.out | apply below_alloc | apply pw_below_drewN | apply below_drew1 | refine below_set ?_ GE146.out | refine below_set ?_ GE147.out) | exact HB.out))) : w.heap.size ≤ gb166)); have n8_ := Aside0.mk ((by rw [hg]; exact (below_size (by repeat (first | (with_reducible first | exact HB.out | apply below_alloc | apply pw_below_drewN | apply below_drew1 | refine below_set ?_ GE146.out | refine below_set ?_ GE147.out) | exact HB.out))) : w.heap.size ≤ gb166)); have n9_ := Aside0.mk ((by rw [hg]; exact Nat.ne_of_lt (blk_lt (g := gb146) (o := .cells (⟨(.bool a0_0) :: (.slice A0_1 l0_1.length c0_1) :: Arr.arL .i8 a0_2⟩ : Array Value) 42 (0, 0)) (by (with_reducible repeat (first | refine blk_drewN ?_ _ | refine blk_drew ?_ | refine blk_alloc ?_ _)); exact BK146.out)) : gb146 ≠ gb166)); have n10_ := Aside0.mk ((by rw [hg]; exact Nat.ne_of_gt (blk_lt (g := gb146) (o := .cells (⟨(.bool a0_0) :: (.slice A0_1 l0_1.length c0_1) :: Arr.arL .i8 a0_2⟩ : Array Value) 42 (0, 0)) (by (with_reducible repeat (first | refine blk_drewN ?_ _ | refine blk_drew ?_ | refine blk_alloc ?_ _)); exact BK146.out)) : gb166 ≠ gb146)); have n11_ := Aside0.mk ((by rw [hg]; exact Nat.ne_of_lt (blk_lt (g := gb147) (o := .cells (⟨(.bool a1_0) :: (.slice A1_1 l1_1.length c1_1) :: Arr.arL .i8 a1_2⟩ : Array Value) 42 (0, 0)) (by (with_reducible repeat (first | refine blk_drewN ?_ _ | refine blk_drew ?_ | refine blk_alloc ?_ _)); exact BK147.out)) : gb147 ≠ gb166)); have n12_ := Aside0.mk ((by rw [hg]; exact Nat.ne_of_gt (blk_lt (g := gb147) (o := .cells (⟨(.bool a1_0) :: (.slice A1_1 l1_1.length c1_1) :: Arr.arL .i8 a1_2⟩ : Array Value) 42 (0, 0)) (by (with_reducible repeat (first | refine blk_drewN ?_ _ | refine blk_drew ?_ | refine blk_alloc ?_ _)); exact BK147.out)) : gb166 ≠ gb147)); clear HO153; clear HO158; clear HO164; clear BK146; clear BK147; clear HB; have HO153 := n0_; have HO158 := n1_; have HO164 := n2_; have BK146 := n3_; have BK147 := n4_; have HB := n5_; have BK166 := n6_; have GW166 := n7_; have GE166 := n8_; have NB146_166 := n9_; have NB166_146 := n10_; have NB147_166 := n11_; have NB166_147 := n12_; clear n0_ n1_ n2_ n3_ n4_ n5_ n6_ n7_ n8_ n9_ n10_ n11_ n12_; clear hb hbox hg; obtain ⟨Ao54, co54, eo54⟩ := Kd.R_slice HO164.out; subst eo54) | ((with_reducible refine gate_store (t := 47) (p := 7) rfl ?_); refine Arr.storeA ?hg (T := 47) (p := 7) (v := ?vo_w53) ?ho ?hn (g := gb166) (off := 0) ?hx (m := ((.bool t161) :: (.slice Ao54 t162.length co54) :: Arr.arL .i8 t165)) ?hy (t := 47) (pre := []) (old := ((.bool false) :: (.slice none 0 0) :: Arr.arL .i8 (Vector.replicate 16 0 : Vector Int 16))) (show w52.heap[gb166]? = some (.cells (⟨(.bool false) :: (.slice none 0 0) :: Arr.arL .i8 (Vector.replicate 16 0 : Vector Int 16)⟩ : Array Value) 47 (0, 0)) from by (with_reducible repeat (first | refine blk_drewN ?_ _ | refine blk_drew ?_ | refine blk_alloc ?_ _)); exact BK166.out) rfl (by simp [Arr.arL_length]) (n := 18) (by kernel_rfl) (by simp [Arr.arL_length]) (Arr.ones_2 rfl rfl) ?_; (case ho => rfl); (case hg => rfl); (case hn => rfl); (case hx => first | (go_simp; done) | rfl | (go_simp; rfl)); (case hy => first | (go_simp; done) | rfl | (go_simp; rfl)); intro w53 hbx hg hbe; replace hbx : w53.heap[gb166]? = some (.cells (⟨(.bool t161) :: (.slice Ao54 t162.length co54) :: Arr.arL .i8 t165⟩ : Array Value) 47 (0, 0)) := hbx; have n0_ := Aside0.mk (blk_grown (g := gb146) (o := .cells (⟨(.bool a0_0) :: (.slice A0_1 l0_1.length c0_1) :: Arr.arL .i8 a0_2⟩ : Array Value) 42 (0, 0)) (by (with_reducible repeat (first | refine blk_drewN ?_ _ | refine blk_drew ?_ | refine blk_alloc ?_ _)); exact BK146.out) hg (fun e_ => NB146_166.out (Option.some.inj e_))); have n1_ := Aside0.mk (blk_grown (g := gb147) (o := .cells (⟨(.bool a1_0) :: (.slice A1_1 l1_1.length c1_1) :: Arr.arL .i8 a1_2⟩ : Array Value) 42 (0, 0)) (by (with_reducible repeat (first | refine blk_drewN ?_ _ | refine blk_drew ?_ | refine blk_alloc ?_ _)); exact BK147.out) hg (fun e_ => NB147_166.out (Option.some.inj e_))); have n2_ := Aside0.mk (Kd.R_grown1 (by (with_reducible repeat (first | apply Kd.R_alloc | apply Kd.R_drewN | apply Kd.R_drew)); exact HO153.out) rfl hg (Kd.R_ne HO153.out BK166.out (by decide))); have n3_ := Aside0.mk (Kd.R_grown1 (by (with_reducible repeat (first | apply Kd.R_alloc | apply Kd.R_drewN | apply Kd.R_drew)); exact HO158.out) rfl hg (Kd.R_ne HO158.out BK166.out (by decide))); have n4_ := Aside0.mk (Kd.R_grown1 (by (with_reducible repeat (first | apply Kd.R_alloc | apply Kd.R_drewN | apply Kd.R_drew)); exact HO164.out) rfl hg (Kd.R_ne HO164.out BK166.out (by decide))); have n5_ := Aside0.mk (hbx); have n6_ := Aside0.mk (hbe _ _ (by repeat (first | (with_reducible first | exact HB.out | apply below_alloc | apply pw_below_drewN | apply below_drew1 | refine below_set ?_ GE146.out | refine below_set ?_ GE147.out | refine below_set ?_ GE166.out) | exact HB.out)) GE166.out); clear BK146; clear BK147; clear HO153; clear HO158; clear HO164; clear BK166; clear HB; have BK146 := n0_; have BK147 := n1_; have HO153 := n2_; have HO158 := n3_; have HO164 := n4_; have BK166 := n5_; have HB := n6_; clear n0_ n1_ n2_ n3_ n4_ n5_ n6_; (try clear hbx hg hbe)) | ((with_reducible refine Arr.gate_load (t := 42) (p := 3) rfl ?_); (try (refine gate_guard (by rfl) ?_; dsimp only)); refine Arr.loadA ?hg (T := 42) (p := 3) ?ho (g := gb147) (off := 0) ?hx (t := 42) (l := ((.bool a1_0) :: (.slice A1_1 l1_1.length c1_1) :: Arr.arL .i8 a1_2)) (m := ((.bool a1_0) :: (.slice A1_1 l1_1.length c1_1) :: Arr.arL .i8 a1_2)) (fr := (0, 0)) (show w53.heap[gb147]? = some (.cells (⟨(.bool a1_0) :: (.slice A1_1 l1_1.length c1_1) :: Arr.arL .i8 a1_2⟩ : Array Value) 42 (0, 0)) from by (with_reducible repeat (first | refine blk_drewN ?_ _ | refine blk_drew ?_ | refine blk_alloc ?_ _)); exact BK147.out) rfl Try.underlying42 rfl (n := 18) (by kernel_rfl) (by simp [Arr.arL_length]) ?_; (case hg => rfl); (case ho => rfl); (case hx => first | (go_simp; done) | rfl | (go_simp; rfl))) | ((with_reducible refine gate_callee (f := 29) rfl ?_); refine goesL_ (some 28) rfl rfl Try.func29 (by kernel_rfl) rfl #[.agg (⟨(.bool a1_0) :: (.slice A1_1 l1_1.length c1_1) :: Arr.arL .i8 a1_2⟩ : Array Value)] rfl (by (try simp only [List.map_toArray, List.map_cons, List.map_nil]); first | done | (go_simp; done) | rfl | (simp only [List.length_drop, List.length_take]; rfl)) ?_; (with_reducible refine (laws_toHalf.calls k a1_0 _ _ l1_1 a1_2 t167 t168 t171 _ ?side1 ?side2 A25.out).mono ?_); (case side1 => repeat (first | exact (Kd.C_below HR1_1.out HB.out) | (with_reducible refine Kd.C_alloc ?_ _) | (with_reducible refine Kd.C_drewN ?_ _) | (with_reducible refine Kd.C_drew ?_))); (case side2 => exact HC1_1.out); rintro e w55 ⟨v169, rfl, ho0, hb⟩; refine ⟨_, rfl, ?_⟩; have n0_ := Aside0.mk (Kd.R_elder' (by (with_reducible repeat (first | apply Kd.R_alloc | apply Kd.R_drewN | apply Kd.R_drew)); exact HO153.out) (Kd.R_base ho0) hb); have n1_ := Aside0.mk (Kd.R_elder' (by (with_reducible repeat (first | apply Kd.R_alloc | apply Kd.R_drewN | apply Kd.R_drew)); exact HO158.out) (Kd.R_base ho0) hb); have n2_ := Aside0.mk (Kd.R_elder' (by (with_reducible repeat (first | apply Kd.R_alloc | apply Kd.R_drewN | apply Kd.R_drew)); exact HO164.out) (Kd.R_base ho0) hb); have n3_ := Aside0.mk (Kd.R_lower (Kd.R_new' (Kd.R_new' (Kd.R_new' ho0 (Kd.R_lt (by (with_reducible repeat (first | apply Kd.R_alloc | apply Kd.R_drewN | apply Kd.R_drew)); exact HO153.out))) (Kd.R_lt (by (with_reducible repeat (first | apply Kd.R_alloc | apply Kd.R_drewN | apply Kd.R_drew)); exact HO158.out))) (Kd.R_lt (by (with_reducible repeat (first | apply Kd.R_alloc | apply Kd.R_drewN | apply Kd.R_drew)); exact HO164.out))) (below_size (by repeat (first | (with_reducible first | exact HB.out | apply below_alloc | apply pw_below_drewN | apply below_drew1 | refine below_set ?_ GE146.out | refine below_set ?_ GE147.out | refine below_set ?_ GE166.out) | exact HB.out)))); have n4_ := Aside0.mk (blk_below (g := gb146) (o := .cells (⟨(.bool a0_0) :: (.slice A0_1 l0_1.length c0_1) :: Arr.arL .i8 a0_2⟩ : Array Value) 42 (0, 0)) (by (with_reducible repeat (first | refine blk_drewN ?_ _ | refine blk_drew ?_ | refine blk_alloc ?_ _)); exact BK146.out) hb); have n5_ := Aside0.mk (blk_below (g := gb147) (o := .cells (⟨(.bool a1_0) :: (.slice A1_1 l1_1.length c1_1) :: Arr.arL .i8 a1_2⟩ : Array Value) 42 (0, 0)) (by (with_reducible repeat (first | refine blk_drewN ?_ _ | refine blk_drew ?_ | refine blk_alloc ?_ _)); exact BK147.out) hb); have n6_ := Aside0.mk (blk_below (g := gb166) (o := .cells (⟨(.bool t161) :: (.slice Ao54 t162.length co54) :: Arr.arL .i8 t165⟩ : Array Value) 47 (0, 0)) (by (with_reducible repeat (first | refine blk_drewN ?_ _ | refine blk_drew ?_ | refine blk_alloc ?_ _)); exact BK166.out) hb); have n7_ := Aside0.mk (below_step (by repeat (first | (with_reducible first | exact HB.out | apply below_alloc | apply pw_below_drewN | apply below_drew1 | refine below_set ?_ GE146.out | refine below_set ?_ GE147.out | refine below_set ?_ GE166.out) | exact HB.out)) hb); clear HO153; clear HO158; clear HO164; clear BK146; clear BK147; clear BK166; clear HB; have HO153 := n0_; have HO158 := n1_; have HO164 := n2_; have HO170 := n3_; have BK146 := n4_; have BK147 := n5_; have BK166 := n6_; have HB := n7_; clear n0_ n1_ n2_ n3_ n4_ n5_ n6_ n7_; (try clear hb); (try clear hb2); (try clear hk); (try clear hi); (try clear ho0)) | ((with_reducible refine gate_dst (N := 8) rfl ?_); refine box_event ?hg (N := 8) ?hd (cs := (⟨(.bool false) :: (.slice none 0 0) :: Arr.arL .i8 (Vector.replicate 16 0 : Vector Int 16)⟩ : Array Value)) (t := 47) ?hr ?_; (case hd => rfl); (case hg => rfl); (case hr => first | (go_simp; done) | (go_simp; rfl)); intro gb172 hg w56 hbox hb; have n0_ := Aside0.mk (Kd.R_below (by (with_reducible repeat (first | apply Kd.R_alloc | apply Kd.R_drewN | apply Kd.R_drew)); exact HO153.out) hb); have n1_ := Aside0.mk (Kd.R_below (by (with_reducible repeat (first | apply Kd.R_alloc | apply Kd.R_drewN | apply Kd.R_drew)); exact HO158.out) hb); have n2_ := Aside0.mk (Kd.R_below (by (with_reducible repeat (first | apply Kd.R_alloc | apply Kd.R_drewN | apply Kd.R_drew)); exact HO164.out) hb); have n3_ := Aside0.mk (Kd.R_below (by (with_reducible repeat (first | apply Kd.R_alloc | apply Kd.R_drewN | apply Kd.R_drew)); exact HO170.out) hb); have n4_ := Aside0.mk (blk_below (g := gb146) (o := .cells (⟨(.bool a0_0) :: (.slice A0_1 l0_1.length c0_1) :: Arr.arL .i8 a0_2⟩ : Array Value) 42 (0, 0)) (by (with_reducible repeat (first | refine blk_drewN ?_ _ | refine blk_drew ?_ | refine blk_alloc ?_ _)); exact BK146.out) hb); have n5_ := Aside0.mk (blk_below (g := gb147) (o := .cells (⟨(.bool a1_0) :: (.slice A1_1 l1_1.length c1_1) :: Arr.arL .i8 a1_2⟩ : Array Value) 42 (0, 0)) (by (with_reducible repeat (first | refine blk_drewN ?_ _ | refine blk_drew ?_ | refine blk_alloc ?_ _)); exact BK147.out) hb); have n6_ := Aside0.mk (blk_below (g := gb166) (o := .cells (⟨(.bool t161) :: (.slice Ao54 t162.length co54) :: Arr.arL .i8 t165⟩ : Array Value) 47 (0, 0)) (by (with_reducible repeat (first | refine blk_drewN ?_ _ | refine blk_drew ?_ | refine blk_alloc ?_ _)); exact BK166.out) hb); have n7_ := Aside0.mk (below_step (by repeat (first | (with_reducible first | exact HB.out | apply below_alloc | apply pw_below_drewN | apply below_drew1 | refine below_set ?_ GE146.out | refine below_set ?_ GE147.out | refine below_set ?_ GE166.out) | exact HB.out)) hb); have n8_ := Aside0.mk (hbox); have n9_ := Aside0.mk ((by rw [hg]; exact (below_size (by repeat (first | (with_reducible first | exact HB.out | apply below_alloc | apply pw_below_drewN | apply below_drew1 | refine below_set ?_ GE146.out | refine below_set ?_ GE147.out | refine below_set ?_ GE166.out) | exact HB.out))) : w.heap.size ≤ gb172)); have n10_ := Aside0.mk ((by rw [hg]; exact (below_size (by repeat (first | (with_reducible first | exact HB.out | apply below_alloc | apply pw_below_drewN | apply below_drew1 | refine below_set ?_ GE146.out | refine below_set ?_ GE147.out | refine below_set ?_ GE166.out) | exact HB.out))) : w.heap.size ≤ gb172)); have n11_ := Aside0.mk ((by rw [hg]; exact Nat.ne_of_lt (blk_lt (g := gb146) (o := .cells (⟨(.bool a0_0) :: (.slice A0_1 l0_1.length c0_1) :: Arr.arL .i8 a0_2⟩ : Array Value) 42 (0, 0)) (by (with_reducible repeat (first | refine blk_drewN ?_ _ | refine blk_drew ?_ | refine blk_alloc ?_ _)); exact BK146.out)) : gb146 ≠ gb172)); have n12_ := Aside0.mk ((by rw [hg]; exact Nat.ne_of_gt (blk_lt (g := gb146) (o := .cells (⟨(.bool a0_0) :: (.slice A0_1 l0_1.length c0_1) :: Arr.arL .i8 a0_2⟩ : Array Value) 42 (0, 0)) (by (with_reducible repeat (first | refine blk_drewN ?_ _ | refine blk_drew ?_ | refine blk_alloc ?_ _)); exact BK146.out)) : gb172 ≠ gb146)); have n13_ := Aside0.mk ((by rw [hg]; exact Nat.ne_of_lt (blk_lt (g := gb147) (o := .cells (⟨(.bool a1_0) :: (.slice A1_1 l1_1.length c1_1) :: Arr.arL .i8 a1_2⟩ : Array Value) 42 (0, 0)) (by (with_reducible repeat (first | refine blk_drewN ?_ _ | refine blk_drew ?_ | refine blk_alloc ?_ _)); exact BK147.out)) : gb147 ≠ gb172)); have n14_ := Aside0.mk ((by rw [hg]; exact Nat.ne_of_gt (blk_lt (g := gb147) (o := .cells (⟨(.bool a1_0) :: (.slice A1_1 l1_1.length c1_1) :: Arr.arL .i8 a1_2⟩ : Array Value) 42 (0, 0)) (by (with_reducible repeat (first | refine blk_drewN ?_ _ | refine blk_drew ?_ | refine blk_alloc ?_ _)); exact BK147.out)) : gb172 ≠ gb147)); have n15_ := Aside0.mk ((by rw [hg]; exact Nat.ne_of_lt (blk_lt (g := gb166) (o := .cells (⟨(.bool t161) :: (.slice Ao54 t162.length co54) :: Arr.arL .i8 t165⟩ : Array Value) 47 (0, 0)) (by (with_reducible repeat (first | refine blk_drewN ?_ _ | refine blk_drew ?_ | refine blk_alloc ?_ _)); exact BK166.out)) : gb166 ≠ gb172)); have n16_ := Aside0.mk ((by rw [hg]; exact Nat.ne_of_gt (blk_lt (g := gb166) (o := .cells (⟨(.bool t161) :: (.slice Ao54 t162.length co54) :: Arr.arL .i8 t165⟩ : Array Value) 47 (0, 0)) (by (with_reducible repeat (first | refine blk_drewN ?_ _ | refine blk_drew ?_ | refine blk_alloc ?_ _)); exact BK166.out)) : gb172 ≠ gb166)); clear HO153; clear HO158; clear HO164; clear HO170; clear BK146; clear BK147; clear BK166; clear HB; have HO153 := n0_; have HO158 := n1_; have HO164 := n2_; have HO170 := n3_; have BK146 := n4_; have BK147 := n5_; have BK166 := n6_; have HB := n7_; have BK172 := n8_; have GW172 := n9_; have GE172 := n10_; have NB146_172 := n11_; have NB172_146 := n12_; have NB147_172 := n13_; have NB172_147 := n14_; have NB166_172 := n15_; have NB172_166 := n16_; clear n0_ n1_ n2_ n3_ n4_ n5_ n6_ n7_ n8_ n9_ n10_ n11_ n12_ n13_ n14_ n15_ n16_; clear hb hbox hg; obtain ⟨Ao58, co58, eo58⟩ := Kd.R_slice HO170.out; subst eo58) | ((with_reducible refine gate_store (t := 47) (p := 8) rfl ?_); refine Arr.storeA ?hg (T := 47) (p := 8) (v := ?vo_w57) ?ho ?hn (g := gb172) (off := 0) ?hx (m := ((.bool t167) :: (.slice Ao58 t168.length co58) :: Arr.arL .i8 t171)) ?hy (t := 47) (pre := []) (old := ((.bool false) :: (.slice none 0 0) :: Arr.arL .i8 (Vector.replicate 16 0 : Vector Int 16))) (show w56.heap[gb172]? = some (.cells (⟨(.bool false) :: (.slice none 0 0) :: Arr.arL .i8 (Vector.replicate 16 0 : Vector Int 16)⟩ : Array Value) 47 (0, 0)) from by (with_reducible repeat (first | refine blk_drewN ?_ _ | refine blk_drew ?_ | refine blk_alloc ?_ _)); exact BK172.out) rfl (by simp [Arr.arL_length]) (n := 18) (by kernel_rfl) (by simp [Arr.arL_length]) (Arr.ones_2 rfl rfl) ?_; (case ho => rfl); (case hg => rfl); (case hn => rfl); (case hx => first | (go_simp; done) | rfl | (go_simp; rfl)); (case hy => first | (go_simp; done) | rfl | (go_simp; rfl)); intro w57 hbx hg hbe; replace hbx : w57.heap[gb172]? = some (.cells (⟨(.bool t167) :: (.slice Ao58 t168.length co58) :: Arr.arL .i8 t171⟩ : Array Value) 47 (0, 0)) := hbx; have n0_ := Aside0.mk (blk_grown (g := gb146) (o := .cells (⟨(.bool a0_0) :: (.slice A0_1 l0_1.length c0_1) :: Arr.arL .i8 a0_2⟩ : Array Value) 42 (0, 0)) (by (with_reducible repeat (first | refine blk_drewN ?_ _ | refine blk_drew ?_ | refine blk_alloc ?_ _)); exact BK146.out) hg (fun e_ => NB146_172.out (Option.some.inj e_))); have n1_ := Aside0.mk (blk_grown (g := gb147) (o := .cells (⟨(.bool a1_0) :: (.slice A1_1 l1_1.length c1_1) :: Arr.arL .i8 a1_2⟩ : Array Value) 42 (0, 0)) (by (with_reducible repeat (first | refine blk_drewN ?_ _ | refine blk_drew ?_ | refine blk_alloc ?_ _)); exact BK147.out) hg (fun e_ => NB147_172.out (Option.some.inj e_))); have n2_ := Aside0.mk (Kd.R_grown1 (by (with_reducible repeat (first | apply Kd.R_alloc | apply Kd.R_drewN | apply Kd.R_drew)); exact HO153.out) rfl hg (Kd.R_ne HO153.out BK172.out (by decide))); have n3_ := Aside0.mk (Kd.R_grown1 (by (with_reducible repeat (first | apply Kd.R_alloc | apply Kd.R_drewN | apply Kd.R_drew)); exact HO158.out) rfl hg (Kd.R_ne HO158.out BK172.out (by decide))); have n4_ := Aside0.mk (Kd.R_grown1 (by (with_reducible repeat (first | apply Kd.R_alloc | apply Kd.R_drewN | apply Kd.R_drew)); exact HO164.out) rfl hg (Kd.R_ne HO164.out BK172.out (by decide))); have n5_ := Aside0.mk (blk_grown (g := gb166) (o := .cells (⟨(.bool t161) :: (.slice Ao54 t162.length co54) :: Arr.arL .i8 t165⟩ : Array Value) 47 (0, 0)) (by (with_reducible repeat (first | refine blk_drewN ?_ _ | refine blk_drew ?_ | refine blk_alloc ?_ _)); exact BK166.out) hg (fun e_ => NB166_172.out (Option.some.inj e_))); have n6_ := Aside0.mk (Kd.R_grown1 (by (with_reducible repeat (first | apply Kd.R_alloc | apply Kd.R_drewN | apply Kd.R_drew)); exact HO170.out) rfl hg (Kd.R_ne HO170.out BK172.out (by decide))); have n7_ := Aside0.mk (hbx); have n8_ := Aside0.mk (hbe _ _ (by repeat (first | (with_reducible first | exact HB.out | apply below_alloc | apply pw_below_drewN | apply below_drew1 | refine below_set ?_ GE146.out | refine below_set ?_ GE147.out | refine below_set ?_ GE166.out | refine below_set ?_ GE172.out) | exact HB.out)) GE172.out); clear BK146; clear BK147; clear HO153; clear HO158; clear HO164; clear BK166; clear HO170; clear BK172; clear HB; have BK146 := n0_; have BK147 := n1_; have HO153 := n2_; have HO158 := n3_; have HO164 := n4_; have BK166 := n5_; have HO170 := n6_; have BK172 := n7_; have HB := n8_; clear n0_ n1_ n2_ n3_ n4_ n5_ n6_ n7_ n8_; (try clear hbx hg hbe)) | ((with_reducible refine Arr.gate_load (t := 47) (p := 7) rfl ?_); (try (refine gate_guard (by rfl) ?_; dsimp only)); refine Arr.loadA ?hg (T := 47) (p := 7) ?ho (g := gb166) (off := 0) ?hx (t := 47) (l := ((.bool t161) :: (.slice Ao54 t162.length co54) :: Arr.arL .i8 t165)) (m := ((.bool t161) :: (.slice Ao54 t162.length co54) :: Arr.arL .i8 t165)) (fr := (0, 0)) (show w57.heap[gb166]? = some (.cells (⟨(.bool t161) :: (.slice Ao54 t162.length co54) :: Arr.arL .i8 t165⟩ : Array Value) 47 (0, 0)) from by (with_reducible repeat (first | refine blk_drewN ?_ _ | refine blk_drew ?_ | refine blk_alloc ?_ _)); exact BK166.out) rfl Try.underlying47 rfl (n := 18) (by kernel_rfl) (by simp [Arr.arL_length]) ?_; (case hg => rfl); (case ho => rfl); (case hx => first | (go_simp; done) | rfl | (go_simp; rfl))) | ((with_reducible refine Arr.gate_load (t := 47) (p := 8) rfl ?_); (try (refine gate_guard (by rfl) ?_; dsimp only)); refine Arr.loadA ?hg (T := 47) (p := 8) ?ho (g := gb172) (off := 0) ?hx (t := 47) (l := ((.bool t167) :: (.slice Ao58 t168.length co58) :: Arr.arL .i8 t171)) (m := ((.bool t167) :: (.slice Ao58 t168.length co58) :: Arr.arL .i8 t171)) (fr := (0, 0)) (show w57.heap[gb172]? = some (.cells (⟨(.bool t167) :: (.slice Ao58 t168.length co58) :: Arr.arL .i8 t171⟩ : Array Value) 47 (0, 0)) from by (with_reducible repeat (first | refine blk_drewN ?_ _ | refine blk_drew ?_ | refine blk_alloc ?_ _)); exact BK172.out) rfl Try.underlying47 rfl (n := 18) (by kernel_rfl) (by simp [Arr.arL_length]) ?_; (case hg => rfl); (case ho => rfl); (case hx => first | (go_simp; done) | rfl | (go_simp; rfl))) | ((with_reducible refine gate_callee (f := 30) rfl ?_); refine goesL_ (some 31) rfl rfl Try.func30 (by kernel_rfl) rfl #[.agg (⟨(.bool t161) :: (.slice Ao54 t162.length co54) :: Arr.arL .i8 t165⟩ : Array Value), .agg (⟨(.bool t167) :: (.slice Ao58 t168.length co58) :: Arr.arL .i8 t171⟩ : Array Value)] rfl (by (try simp only [List.map_toArray, List.map_cons, List.map_nil]); first | done | (go_simp; done) | rfl | (simp only [List.length_drop, List.length_take]; rfl)) ?_; (with_reducible refine (impl_SameHalf.calls k t161 _ _ t162 t165 t167 _ _ t168 t171 t173 _ ?side1 ?side2 ?side3 ?side4 A29.out).mono ?_); (case side1 => repeat (first | exact (Kd.R_reads' HO164.out).2.2 | (with_reducible refine Kd.C_alloc ?_ _) | (with_reducible refine Kd.C_drewN ?_ _) | (with_reducible refine Kd.C_drew ?_))); (case side2 => exact (Kd.R_reads' HO164.out).2.1); (case side3 => repeat (first | exact (Kd.R_reads' HO170.out).2.2 | (with_reducible refine Kd.C_alloc ?_ _) | (with_reducible refine Kd.C_drewN ?_ _) | (with_reducible refine Kd.C_drew ?_))); (case side4 => exact (Kd.R_reads' HO170.out).2.1); rintro e w59 ⟨rfl, hb⟩; refine ⟨_, rfl, ?_⟩; have n0_ := Aside0.mk (Kd.R_below (by (with_reducible repeat (first | apply Kd.R_alloc | apply Kd.R_drewN | apply Kd.R_drew)); exact HO153.out) hb); have n1_ := Aside0.mk (Kd.R_below (by (with_reducible repeat (first | apply Kd.R_alloc | apply Kd.R_drewN | apply Kd.R_drew)); exact HO158.out) hb); have n2_ := Aside0.mk (Kd.R_below (by (with_reducible repeat (first | apply Kd.R_alloc | apply Kd.R_drewN | apply Kd.R_drew)); exact HO164.out) hb); have n3_ := Aside0.mk (Kd.R_below (by (with_reducible repeat (first | apply Kd.R_alloc | apply Kd.R_drewN | apply Kd.R_drew)); exact HO170.out) hb); have n4_ := Aside0.mk (blk_below (g := gb146) (o := .cells (⟨(.bool a0_0) :: (.slice A0_1 l0_1.length c0_1) :: Arr.arL .i8 a0_2⟩ : Array Value) 42 (0, 0)) (by (with_reducible repeat (first | refine blk_drewN ?_ _ | refine blk_drew ?_ | refine blk_alloc ?_ _)); exact BK146.out) hb); have n5_ := Aside0.mk (blk_below (g := gb147) (o := .cells (⟨(.bool a1_0) :: (.slice A1_1 l1_1.length c1_1) :: Arr.arL .i8 a1_2⟩ : Array Value) 42 (0, 0)) (by (with_reducible repeat (first | refine blk_drewN ?_ _ | refine blk_drew ?_ | refine blk_alloc ?_ _)); exact BK147.out) hb); have n6_ := Aside0.mk (blk_below (g := gb166) (o := .cells (⟨(.bool t161) :: (.slice Ao54 t162.length co54) :: Arr.arL .i8 t165⟩ : Array Value) 47 (0, 0)) (by (with_reducible repeat (first | refine blk_drewN ?_ _ | refine blk_drew ?_ | refine blk_alloc ?_ _)); exact BK166.out) hb); have n7_ := Aside0.mk (blk_below (g := gb172) (o := .cells (⟨(.bool t167) :: (.slice Ao58 t168.length co58) :: Arr.arL .i8 t171⟩ : Array Value) 47 (0, 0)) (by (with_reducible repeat (first | refine blk_drewN ?_ _ | refine blk_drew ?_ | refine blk_alloc ?_ _)); exact BK172.out) hb); have n8_ := Aside0.mk (below_step (by repeat (first | (with_reducible first | exact HB.out | apply below_alloc | apply pw_below_drewN | apply below_drew1 | refine below_set ?_ GE146.out | refine below_set ?_ GE147.out | refine below_set ?_ GE166.out | refine below_set ?_ GE172.out) | exact HB.out)) hb); clear HO153; clear HO158; clear HO164; clear HO170; clear BK146; clear BK147; clear BK166; clear BK172; clear HB; have HO153 := n0_; have HO158 := n1_; have HO164 := n2_; have HO170 := n3_; have BK146 := n4_; have BK147 := n5_; have BK166 := n6_; have BK172 := n7_; have HB := n8_; clear n0_ n1_ n2_ n3_ n4_ n5_ n6_ n7_ n8_; (try clear hb); (try clear hb2); (try clear hk); (try clear hi)))
            have n0_ := Aside0.mk (Kd.R_drew HO153.out)
            have n1_ := Aside0.mk (Kd.R_drew HO158.out)
            have n2_ := Aside0.mk (Kd.R_drew HO164.out)
            have n3_ := Aside0.mk (Kd.R_drew HO170.out)
            have n4_ := Aside0.mk (blk_drew BK146.out)
            have n5_ := Aside0.mk (blk_drew BK147.out)
            have n6_ := Aside0.mk (blk_drew BK166.out)
            have n7_ := Aside0.mk (blk_drew BK172.out)
            have n8_ := Aside0.mk (below_drew1 HB.out)
            clear HO153
            clear HO158
            clear HO164
            clear HO170
            clear BK146
            clear BK147
            clear BK166
            clear BK172
            clear HB
            have HO153 := n0_
            have HO158 := n1_
            have HO164 := n2_
            have HO170 := n3_
            have BK146 := n4_
            have BK147 := n5_
            have BK166 := n6_
            have BK172 := n7_
            have HB := n8_
            clear n0_ n1_ n2_ n3_ n4_ n5_ n6_ n7_ n8_
            refine start_ (n := 5) (S := fun w' => w'.heap[gb166]? = some (.cells (⟨(.bool t161) :: (.slice Ao54 t162.length co54) :: Arr.arL .i8 t165⟩ : Array Value) 47 (0, 0)) ∧ w'.heap[gb146]? = some (.cells (⟨(.bool a0_0) :: (.slice A0_1 l0_1.length c0_1) :: Arr.arL .i8 a0_2⟩ : Array Value) 42 (0, 0))) (ds := []) #[false, false, false, false, false] (by kernel_rfl) rfl rfl ⟨BK166.out, BK146.out⟩ (fun hHeld => ?_)
            generalize w59.drew = w60 at HO153 HO158 HO164 HO170 BK146 BK147 BK166 BK172 HB hHeld ⊢
            refine take_ (i := 0) (N := some 35) (v := ?_) (a' := ?_) #[true, false, false, false, false] rfl rfl (by kernel_rfl) (fun _ _ _ h => h) (Or.inl ⟨by rfl, ?_⟩) hHeld ?_ ?_
            rotate_left
            · rintro w' ⟨s0, s1⟩
              refine Arr.exec_load (T := 47) (p := 7) (g := gb166) (off := 0) (t := 47) (l := ((.bool t161) :: (.slice Ao54 t162.length co54) :: Arr.arL .i8 t165)) (m := ((.bool t161) :: (.slice Ao54 t162.length co54) :: Arr.arL .i8 t165)) (fr := (0, 0)) (n := 18) ?_ ?_ s0 ?_ Try.underlying47 ?_ ?_ ?_
              · rfl
              · first | (go_simp; done) | rfl | (go_simp; rfl)
              · rfl
              · rfl
              · kernel_rfl
              · simp [Arr.arL_length]
            rotate_left
            · simp only [Act.put, List.setIfInBounds_toArray, List.set_cons_zero, List.set_cons_succ, i64_w, i32_w]
              rfl
            refine take_ (i := 1) (N := some 36) (v := ?_) (a' := ?_) #[true, true, false, false, false] rfl rfl (by kernel_rfl) (fun _ _ _ h => h) (Or.inl ⟨by rfl, ?_⟩) hHeld ?_ ?_
            rotate_left
            · rintro w' ⟨s0, s1⟩
              refine Arr.exec_load (T := 42) (p := 2) (g := gb146) (off := 0) (t := 42) (l := ((.bool a0_0) :: (.slice A0_1 l0_1.length c0_1) :: Arr.arL .i8 a0_2)) (m := ((.bool a0_0) :: (.slice A0_1 l0_1.length c0_1) :: Arr.arL .i8 a0_2)) (fr := (0, 0)) (n := 18) ?_ ?_ s1 ?_ Try.underlying42 ?_ ?_ ?_
              · rfl
              · first | (go_simp; done) | rfl | (go_simp; rfl)
              · rfl
              · rfl
              · kernel_rfl
              · simp [Arr.arL_length]
            rotate_left
            · simp only [Act.put, List.setIfInBounds_toArray, List.set_cons_zero, List.set_cons_succ, i64_w, i32_w]
              rfl
            refine one_ (i := 2) (N := some 37) #[true, true, true, false, false] rfl rfl (by kernel_rfl) (by decide) (fun K hK => ?_)
            refine goes_ Try.func29 (by kernel_rfl) rfl #[.agg (⟨(.bool a0_0) :: (.slice A0_1 l0_1.length c0_1) :: Arr.arL .i8 a0_2⟩ : Array Value)] (by rfl) rfl rfl (by (try simp only [List.map_toArray, List.map_cons, List.map_nil]); first | done | (go_simp; done) | rfl | (simp only [List.length_drop, List.length_take]; rfl)) ?_
            with_reducible refine (laws_toHalf.calls k a0_0 _ _ l0_1 a0_2 t174 t175 t178 _ ?side1 ?side2 A33.out).mono ?_
            (case side1 => repeat (first | exact (Kd.C_below HR0_1.out HB.out) | (with_reducible refine Kd.C_alloc ?_ _) | (with_reducible refine Kd.C_drewN ?_ _) | (with_reducible refine Kd.C_drew ?_)))
            (case side2 => exact HC0_1.out)
            rintro e w61 ⟨v176, rfl, ho0, hb⟩
            refine ⟨_, rfl, ?_⟩
            have n0_ := Aside0.mk (Kd.R_elder' (by (with_reducible repeat (first | apply Kd.R_alloc | apply Kd.R_drewN | apply Kd.R_drew)); exact HO153.out) (Kd.R_base ho0) hb)
            have n1_ := Aside0.mk (Kd.R_elder' (by (with_reducible repeat (first | apply Kd.R_alloc | apply Kd.R_drewN | apply Kd.R_drew)); exact HO158.out) (Kd.R_base ho0) hb)
            have n2_ := Aside0.mk (Kd.R_elder' (by (with_reducible repeat (first | apply Kd.R_alloc | apply Kd.R_drewN | apply Kd.R_drew)); exact HO164.out) (Kd.R_base ho0) hb)
            have n3_ := Aside0.mk (Kd.R_elder' (by (with_reducible repeat (first | apply Kd.R_alloc | apply Kd.R_drewN | apply Kd.R_drew)); exact HO170.out) (Kd.R_base ho0) hb)
            have n4_ := Aside0.mk (Kd.R_lower (Kd.R_new' (Kd.R_new' (Kd.R_new' (Kd.R_new' ho0 (Kd.R_lt (by (with_reducible repeat (first | apply Kd.R_alloc | apply Kd.R_drewN | apply Kd.R_drew)); exact HO153.out))) (Kd.R_lt (by (with_reducible repeat (first | apply Kd.R_alloc | apply Kd.R_drewN | apply Kd.R_drew)); exact HO158.out))) (Kd.R_lt (by (with_reducible repeat (first | apply Kd.R_alloc | apply Kd.R_drewN | apply Kd.R_drew)); exact HO164.out))) (Kd.R_lt (by (with_reducible repeat (first | apply Kd.R_alloc | apply Kd.R_drewN | apply Kd.R_drew)); exact HO170.out))) (below_size (by repeat (first | (with_reducible first | exact HB.out | apply below_alloc | apply pw_below_drewN | apply below_drew1 | refine below_set ?_ GE146.out | refine below_set ?_ GE147.out | refine below_set ?_ GE166.out | refine below_set ?_ GE172.out) | exact HB.out))))
            have n5_ := Aside0.mk (blk_below (g := gb146) (o := .cells (⟨(.bool a0_0) :: (.slice A0_1 l0_1.length c0_1) :: Arr.arL .i8 a0_2⟩ : Array Value) 42 (0, 0)) (by (with_reducible repeat (first | refine blk_drewN ?_ _ | refine blk_drew ?_ | refine blk_alloc ?_ _)); exact BK146.out) hb)
            have n6_ := Aside0.mk (blk_below (g := gb147) (o := .cells (⟨(.bool a1_0) :: (.slice A1_1 l1_1.length c1_1) :: Arr.arL .i8 a1_2⟩ : Array Value) 42 (0, 0)) (by (with_reducible repeat (first | refine blk_drewN ?_ _ | refine blk_drew ?_ | refine blk_alloc ?_ _)); exact BK147.out) hb)
            have n7_ := Aside0.mk (blk_below (g := gb166) (o := .cells (⟨(.bool t161) :: (.slice Ao54 t162.length co54) :: Arr.arL .i8 t165⟩ : Array Value) 47 (0, 0)) (by (with_reducible repeat (first | refine blk_drewN ?_ _ | refine blk_drew ?_ | refine blk_alloc ?_ _)); exact BK166.out) hb)
            have n8_ := Aside0.mk (blk_below (g := gb172) (o := .cells (⟨(.bool t167) :: (.slice Ao58 t168.length co58) :: Arr.arL .i8 t171⟩ : Array Value) 47 (0, 0)) (by (with_reducible repeat (first | refine blk_drewN ?_ _ | refine blk_drew ?_ | refine blk_alloc ?_ _)); exact BK172.out) hb)
            have n9_ := Aside0.mk (below_step (by repeat (first | (with_reducible first | exact HB.out | apply below_alloc | apply pw_below_drewN | apply below_drew1 | refine below_set ?_ GE146.out | refine below_set ?_ GE147.out | refine below_set ?_ GE166.out | refine below_set ?_ GE172.out) | exact HB.out)) hb)
            clear HO153
            clear HO158
            clear HO164
            clear HO170
            clear BK146
            clear BK147
            clear BK166
            clear BK172
            clear HB
            have HO153 := n0_
            have HO158 := n1_
            have HO164 := n2_
            have HO170 := n3_
            have HO177 := n4_
            have BK146 := n5_
            have BK147 := n6_
            have BK166 := n7_
            have BK172 := n8_
            have HB := n9_
            clear n0_ n1_ n2_ n3_ n4_ n5_ n6_ n7_ n8_ n9_
            (try clear hb)
            (try clear hb2)
            (try clear hk)
            (try clear hi)
            (try clear ho0)
            obtain ⟨Ao62, co62, eo62⟩ := Kd.R_slice HO177.out
            (first | subst eo62 | (injection eo62 with f1_ f2_ f3_; have f4_ := f1_.symm; have f5_ := f3_.symm; clear f1_ f2_ f3_; subst f4_; subst f5_))
            refine hK.out _ _ ⟨BK166.out, BK146.out⟩ (fun hHeld => ?_)
            clear hK K
            refine norm_ (a' := ?_) ?_ ?_
            rotate_left
            · show Act.put _ (some 37) _ = _
              simp only [Act.put, List.setIfInBounds_toArray, List.set_cons_zero, List.set_cons_succ, i64_w, i32_w]
              rfl
            refine one_ (i := 3) (N := some 38) #[true, true, true, true, false] rfl rfl (by kernel_rfl) (by decide) (fun K hK => ?_)
            refine goes_ Try.func31 (by kernel_rfl) rfl #[.agg (⟨(.bool t161) :: (.slice Ao54 t162.length co54) :: Arr.arL .i8 t165⟩ : Array Value), .agg (⟨(.bool t174) :: (.slice Ao62 t175.length co62) :: Arr.arL .i8 t178⟩ : Array Value)] (by rfl) rfl rfl (by (try simp only [List.map_toArray, List.map_cons, List.map_nil]); first | done | (go_simp; done) | rfl | (simp only [List.length_drop, List.length_take]; rfl)) ?_
            with_reducible refine (laws_eqHalf.calls k t161 _ _ t162 t165 t174 _ _ t175 t178 true _ ?side1 ?side2 ?side3 ?side4 A34.out).mono ?_
            (case side1 => repeat (first | exact (Kd.R_reads' HO164.out).2.2 | (with_reducible refine Kd.C_alloc ?_ _) | (with_reducible refine Kd.C_drewN ?_ _) | (with_reducible refine Kd.C_drew ?_)))
            (case side2 => exact (Kd.R_reads' HO164.out).2.1)
            (case side3 => repeat (first | exact (Kd.R_reads' HO177.out).2.2 | (with_reducible refine Kd.C_alloc ?_ _) | (with_reducible refine Kd.C_drewN ?_ _) | (with_reducible refine Kd.C_drew ?_)))
            (case side4 => exact (Kd.R_reads' HO177.out).2.1)
            rintro e w63 ⟨rfl, hb⟩
            refine ⟨_, rfl, ?_⟩
            have n0_ := Aside0.mk (Kd.R_below (by (with_reducible repeat (first | apply Kd.R_alloc | apply Kd.R_drewN | apply Kd.R_drew)); exact HO153.out) hb)
            have n1_ := Aside0.mk (Kd.R_below (by (with_reducible repeat (first | apply Kd.R_alloc | apply Kd.R_drewN | apply Kd.R_drew)); exact HO158.out) hb)
            have n2_ := Aside0.mk (Kd.R_below (by (with_reducible repeat (first | apply Kd.R_alloc | apply Kd.R_drewN | apply Kd.R_drew)); exact HO164.out) hb)
            have n3_ := Aside0.mk (Kd.R_below (by (with_reducible repeat (first | apply Kd.R_alloc | apply Kd.R_drewN | apply Kd.R_drew)); exact HO170.out) hb)
            have n4_ := Aside0.mk (Kd.R_below (by (with_reducible repeat (first | apply Kd.R_alloc | apply Kd.R_drewN | apply Kd.R_drew)); exact HO177.out) hb)
            have n5_ := Aside0.mk (blk_below (g := gb146) (o := .cells (⟨(.bool a0_0) :: (.slice A0_1 l0_1.length c0_1) :: Arr.arL .i8 a0_2⟩ : Array Value) 42 (0, 0)) (by (with_reducible repeat (first | refine blk_drewN ?_ _ | refine blk_drew ?_ | refine blk_alloc ?_ _)); exact BK146.out) hb)
            have n6_ := Aside0.mk (blk_below (g := gb147) (o := .cells (⟨(.bool a1_0) :: (.slice A1_1 l1_1.length c1_1) :: Arr.arL .i8 a1_2⟩ : Array Value) 42 (0, 0)) (by (with_reducible repeat (first | refine blk_drewN ?_ _ | refine blk_drew ?_ | refine blk_alloc ?_ _)); exact BK147.out) hb)
            have n7_ := Aside0.mk (blk_below (g := gb166) (o := .cells (⟨(.bool t161) :: (.slice Ao54 t162.length co54) :: Arr.arL .i8 t165⟩ : Array Value) 47 (0, 0)) (by (with_reducible repeat (first | refine blk_drewN ?_ _ | refine blk_drew ?_ | refine blk_alloc ?_ _)); exact BK166.out) hb)
            have n8_ := Aside0.mk (blk_below (g := gb172) (o := .cells (⟨(.bool t167) :: (.slice Ao58 t168.length co58) :: Arr.arL .i8 t171⟩ : Array Value) 47 (0, 0)) (by (with_reducible repeat (first | refine blk_drewN ?_ _ | refine blk_drew ?_ | refine blk_alloc ?_ _)); exact BK172.out) hb)
            have n9_ := Aside0.mk (below_step (by repeat (first | (with_reducible first | exact HB.out | apply below_alloc | apply pw_below_drewN | apply below_drew1 | refine below_set ?_ GE146.out | refine below_set ?_ GE147.out | refine below_set ?_ GE166.out | refine below_set ?_ GE172.out) | exact HB.out)) hb)
            clear HO153
            clear HO158
            clear HO164
            clear HO170
            clear HO177
            clear BK146
            clear BK147
            clear BK166
            clear BK172
            clear HB
            have HO153 := n0_
            have HO158 := n1_
            have HO164 := n2_
            have HO170 := n3_
            have HO177 := n4_
            have BK146 := n5_
            have BK147 := n6_
            have BK166 := n7_
            have BK172 := n8_
            have HB := n9_
            clear n0_ n1_ n2_ n3_ n4_ n5_ n6_ n7_ n8_ n9_
            (try clear hb)
            (try clear hb2)
            (try clear hk)
            (try clear hi)
            refine hK.out _ _ ⟨BK166.out, BK146.out⟩ (fun hHeld => ?_)
            clear hK K
            refine norm_ (a' := ?_) ?_ ?_
            rotate_left
            · show Act.put _ (some 38) _ = _
              simp only [Act.put, List.setIfInBounds_toArray, List.set_cons_zero, List.set_cons_succ, i64_w, i32_w]
              rfl
            refine pure_ (i := 4) (N := some 39) (v := ?_) (a' := ?_) #[true, true, true, true, true] rfl rfl (by kernel_rfl) (fun _ _ _ h => h) (Or.inl ⟨by rfl, ?_⟩) ?_ ?_
            rotate_left
            · intro w'
              go_simp
              with_reducible rfl
            rotate_left
            · simp only [Act.put, List.setIfInBounds_toArray, List.set_cons_zero, List.set_cons_succ, i64_w, i32_w]
              rfl
            refine done_ (by kernel_rfl) ?_
            try go_wp2
            have n0_ := Aside0.mk (Kd.R_drew HO153.out)
            have n1_ := Aside0.mk (Kd.R_drew HO158.out)
            have n2_ := Aside0.mk (Kd.R_drew HO164.out)
            have n3_ := Aside0.mk (Kd.R_drew HO170.out)
            have n4_ := Aside0.mk (Kd.R_drew HO177.out)
            have n5_ := Aside0.mk (blk_drew BK146.out)
            have n6_ := Aside0.mk (blk_drew BK147.out)
            have n7_ := Aside0.mk (blk_drew BK166.out)
            have n8_ := Aside0.mk (blk_drew BK172.out)
            have n9_ := Aside0.mk (below_drew1 HB.out)
            clear HO153
            clear HO158
            clear HO164
            clear HO170
            clear HO177
            clear BK146
            clear BK147
            clear BK166
            clear BK172
            clear HB
            have HO153 := n0_
            have HO158 := n1_
            have HO164 := n2_
            have HO170 := n3_
            have HO177 := n4_
            have BK146 := n5_
            have BK147 := n6_
            have BK166 := n7_
            have BK172 := n8_
            have HB := n9_
            clear n0_ n1_ n2_ n3_ n4_ n5_ n6_ n7_ n8_ n9_
            refine start_ (n := 5) (S := fun w' => w'.heap[gb172]? = some (.cells (⟨(.bool t167) :: (.slice Ao58 t168.length co58) :: Arr.arL .i8 t171⟩ : Array Value) 47 (0, 0)) ∧ w'.heap[gb147]? = some (.cells (⟨(.bool a1_0) :: (.slice A1_1 l1_1.length c1_1) :: Arr.arL .i8 a1_2⟩ : Array Value) 42 (0, 0))) (ds := []) #[false, false, false, false, false] (by kernel_rfl) rfl rfl ⟨BK172.out, BK147.out⟩ (fun hHeld => ?_)
            generalize w63.drew = w64 at HO153 HO158 HO164 HO170 HO177 BK146 BK147 BK166 BK172 HB hHeld ⊢
            refine take_ (i := 0) (N := some 40) (v := ?_) (a' := ?_) #[true, false, false, false, false] rfl rfl (by kernel_rfl) (fun _ _ _ h => h) (Or.inl ⟨by rfl, ?_⟩) hHeld ?_ ?_
            rotate_left
            · rintro w' ⟨s0, s1⟩
              refine Arr.exec_load (T := 47) (p := 8) (g := gb172) (off := 0) (t := 47) (l := ((.bool t167) :: (.slice Ao58 t168.length co58) :: Arr.arL .i8 t171)) (m := ((.bool t167) :: (.slice Ao58 t168.length co58) :: Arr.arL .i8 t171)) (fr := (0, 0)) (n := 18) ?_ ?_ s0 ?_ Try.underlying47 ?_ ?_ ?_
              · rfl
              · first | (go_simp; done) | rfl | (go_simp; rfl)
              · rfl
              · rfl
              · kernel_rfl
              · simp [Arr.arL_length]
            rotate_left
            · simp only [Act.put, List.setIfInBounds_toArray, List.set_cons_zero, List.set_cons_succ, i64_w, i32_w]
              rfl
            refine take_ (i := 1) (N := some 41) (v := ?_) (a' := ?_) #[true, true, false, false, false] rfl rfl (by kernel_rfl) (fun _ _ _ h => h) (Or.inl ⟨by rfl, ?_⟩) hHeld ?_ ?_
            rotate_left
            · rintro w' ⟨s0, s1⟩
              refine Arr.exec_load (T := 42) (p := 3) (g := gb147) (off := 0) (t := 42) (l := ((.bool a1_0) :: (.slice A1_1 l1_1.length c1_1) :: Arr.arL .i8 a1_2)) (m := ((.bool a1_0) :: (.slice A1_1 l1_1.length c1_1) :: Arr.arL .i8 a1_2)) (fr := (0, 0)) (n := 18) ?_ ?_ s1 ?_ Try.underlying42 ?_ ?_ ?_
              · rfl
              · first | (go_simp; done) | rfl | (go_simp; rfl)
              · rfl
              · rfl
              · kernel_rfl
              · simp [Arr.arL_length]
            rotate_left
            · simp only [Act.put, List.setIfInBounds_toArray, List.set_cons_zero, List.set_cons_succ, i64_w, i32_w]
              rfl
            refine one_ (i := 2) (N := some 42) #[true, true, true, false, false] rfl rfl (by kernel_rfl) (by decide) (fun K hK => ?_)
            refine goes_ Try.func29 (by kernel_rfl) rfl #[.agg (⟨(.bool a1_0) :: (.slice A1_1 l1_1.length c1_1) :: Arr.arL .i8 a1_2⟩ : Array Value)] (by rfl) rfl rfl (by (try simp only [List.map_toArray, List.map_cons, List.map_nil]); first | done | (go_simp; done) | rfl | (simp only [List.length_drop, List.length_take]; rfl)) ?_
            with_reducible refine (laws_toHalf.calls k a1_0 _ _ l1_1 a1_2 t180 t181 t184 _ ?side1 ?side2 A38.out).mono ?_
            (case side1 => repeat (first | exact (Kd.C_below HR1_1.out HB.out) | (with_reducible refine Kd.C_alloc ?_ _) | (with_reducible refine Kd.C_drewN ?_ _) | (with_reducible refine Kd.C_drew ?_)))
            (case side2 => exact HC1_1.out)
            rintro e w65 ⟨v182, rfl, ho0, hb⟩
            refine ⟨_, rfl, ?_⟩
            have n0_ := Aside0.mk (Kd.R_elder' (by (with_reducible repeat (first | apply Kd.R_alloc | apply Kd.R_drewN | apply Kd.R_drew)); exact HO153.out) (Kd.R_base ho0) hb)
            have n1_ := Aside0.mk (Kd.R_elder' (by (with_reducible repeat (first | apply Kd.R_alloc | apply Kd.R_drewN | apply Kd.R_drew)); exact HO158.out) (Kd.R_base ho0) hb)
            have n2_ := Aside0.mk (Kd.R_elder' (by (with_reducible repeat (first | apply Kd.R_alloc | apply Kd.R_drewN | apply Kd.R_drew)); exact HO164.out) (Kd.R_base ho0) hb)
            have n3_ := Aside0.mk (Kd.R_elder' (by (with_reducible repeat (first | apply Kd.R_alloc | apply Kd.R_drewN | apply Kd.R_drew)); exact HO170.out) (Kd.R_base ho0) hb)
            have n4_ := Aside0.mk (Kd.R_elder' (by (with_reducible repeat (first | apply Kd.R_alloc | apply Kd.R_drewN | apply Kd.R_drew)); exact HO177.out) (Kd.R_base ho0) hb)
            have n5_ := Aside0.mk (Kd.R_lower (Kd.R_new' (Kd.R_new' (Kd.R_new' (Kd.R_new' (Kd.R_new' ho0 (Kd.R_lt (by (with_reducible repeat (first | apply Kd.R_alloc | apply Kd.R_drewN | apply Kd.R_drew)); exact HO153.out))) (Kd.R_lt (by (with_reducible repeat (first | apply Kd.R_alloc | apply Kd.R_drewN | apply Kd.R_drew)); exact HO158.out))) (Kd.R_lt (by (with_reducible repeat (first | apply Kd.R_alloc | apply Kd.R_drewN | apply Kd.R_drew)); exact HO164.out))) (Kd.R_lt (by (with_reducible repeat (first | apply Kd.R_alloc | apply Kd.R_drewN | apply Kd.R_drew)); exact HO170.out))) (Kd.R_lt (by (with_reducible repeat (first | apply Kd.R_alloc | apply Kd.R_drewN | apply Kd.R_drew)); exact HO177.out))) (below_size (by repeat (first | (with_reducible first | exact HB.out | apply below_alloc | apply pw_below_drewN | apply below_drew1 | refine below_set ?_ GE146.out | refine below_set ?_ GE147.out | refine below_set ?_ GE166.out | refine below_set ?_ GE172.out) | exact HB.out))))
            have n6_ := Aside0.mk (blk_below (g := gb146) (o := .cells (⟨(.bool a0_0) :: (.slice A0_1 l0_1.length c0_1) :: Arr.arL .i8 a0_2⟩ : Array Value) 42 (0, 0)) (by (with_reducible repeat (first | refine blk_drewN ?_ _ | refine blk_drew ?_ | refine blk_alloc ?_ _)); exact BK146.out) hb)
            have n7_ := Aside0.mk (blk_below (g := gb147) (o := .cells (⟨(.bool a1_0) :: (.slice A1_1 l1_1.length c1_1) :: Arr.arL .i8 a1_2⟩ : Array Value) 42 (0, 0)) (by (with_reducible repeat (first | refine blk_drewN ?_ _ | refine blk_drew ?_ | refine blk_alloc ?_ _)); exact BK147.out) hb)
            have n8_ := Aside0.mk (blk_below (g := gb166) (o := .cells (⟨(.bool t161) :: (.slice Ao54 t162.length co54) :: Arr.arL .i8 t165⟩ : Array Value) 47 (0, 0)) (by (with_reducible repeat (first | refine blk_drewN ?_ _ | refine blk_drew ?_ | refine blk_alloc ?_ _)); exact BK166.out) hb)
            have n9_ := Aside0.mk (blk_below (g := gb172) (o := .cells (⟨(.bool t167) :: (.slice Ao58 t168.length co58) :: Arr.arL .i8 t171⟩ : Array Value) 47 (0, 0)) (by (with_reducible repeat (first | refine blk_drewN ?_ _ | refine blk_drew ?_ | refine blk_alloc ?_ _)); exact BK172.out) hb)
            have n10_ := Aside0.mk (below_step (by repeat (first | (with_reducible first | exact HB.out | apply below_alloc | apply pw_below_drewN | apply below_drew1 | refine below_set ?_ GE146.out | refine below_set ?_ GE147.out | refine below_set ?_ GE166.out | refine below_set ?_ GE172.out) | exact HB.out)) hb)
            clear HO153
            clear HO158
            clear HO164
            clear HO170
            clear HO177
            clear BK146
            clear BK147
            clear BK166
            clear BK172
            clear HB
            have HO153 := n0_
            have HO158 := n1_
            have HO164 := n2_
            have HO170 := n3_
            have HO177 := n4_
            have HO183 := n5_
            have BK146 := n6_
            have BK147 := n7_
            have BK166 := n8_
            have BK172 := n9_
            have HB := n10_
            clear n0_ n1_ n2_ n3_ n4_ n5_ n6_ n7_ n8_ n9_ n10_
            (try clear hb)
            (try clear hb2)
            (try clear hk)
            (try clear hi)
            (try clear ho0)
            obtain ⟨Ao66, co66, eo66⟩ := Kd.R_slice HO183.out
            (first | subst eo66 | (injection eo66 with f1_ f2_ f3_; have f4_ := f1_.symm; have f5_ := f3_.symm; clear f1_ f2_ f3_; subst f4_; subst f5_))
            refine hK.out _ _ ⟨BK172.out, BK147.out⟩ (fun hHeld => ?_)
            clear hK K
            refine norm_ (a' := ?_) ?_ ?_
            rotate_left
            · show Act.put _ (some 42) _ = _
              simp only [Act.put, List.setIfInBounds_toArray, List.set_cons_zero, List.set_cons_succ, i64_w, i32_w]
              rfl
            refine one_ (i := 3) (N := some 43) #[true, true, true, true, false] rfl rfl (by kernel_rfl) (by decide) (fun K hK => ?_)
            refine goes_ Try.func31 (by kernel_rfl) rfl #[.agg (⟨(.bool t167) :: (.slice Ao58 t168.length co58) :: Arr.arL .i8 t171⟩ : Array Value), .agg (⟨(.bool t180) :: (.slice Ao66 t181.length co66) :: Arr.arL .i8 t184⟩ : Array Value)] (by rfl) rfl rfl (by (try simp only [List.map_toArray, List.map_cons, List.map_nil]); first | done | (go_simp; done) | rfl | (simp only [List.length_drop, List.length_take]; rfl)) ?_
            with_reducible refine (laws_eqHalf.calls k t167 _ _ t168 t171 t180 _ _ t181 t184 true _ ?side1 ?side2 ?side3 ?side4 A39.out).mono ?_
            (case side1 => repeat (first | exact (Kd.R_reads' HO170.out).2.2 | (with_reducible refine Kd.C_alloc ?_ _) | (with_reducible refine Kd.C_drewN ?_ _) | (with_reducible refine Kd.C_drew ?_)))
            (case side2 => exact (Kd.R_reads' HO170.out).2.1)
            (case side3 => repeat (first | exact (Kd.R_reads' HO183.out).2.2 | (with_reducible refine Kd.C_alloc ?_ _) | (with_reducible refine Kd.C_drewN ?_ _) | (with_reducible refine Kd.C_drew ?_)))
            (case side4 => exact (Kd.R_reads' HO183.out).2.1)
            rintro e w67 ⟨rfl, hb⟩
            refine ⟨_, rfl, ?_⟩
            have n0_ := Aside0.mk (Kd.R_below (by (with_reducible repeat (first | apply Kd.R_alloc | apply Kd.R_drewN | apply Kd.R_drew)); exact HO153.out) hb)
            have n1_ := Aside0.mk (Kd.R_below (by (with_reducible repeat (first | apply Kd.R_alloc | apply Kd.R_drewN | apply Kd.R_drew)); exact HO158.out) hb)
            have n2_ := Aside0.mk (Kd.R_below (by (with_reducible repeat (first | apply Kd.R_alloc | apply Kd.R_drewN | apply Kd.R_drew)); exact HO164.out) hb)
            have n3_ := Aside0.mk (Kd.R_below (by (with_reducible repeat (first | apply Kd.R_alloc | apply Kd.R_drewN | apply Kd.R_drew)); exact HO170.out) hb)
            have n4_ := Aside0.mk (Kd.R_below (by (with_reducible repeat (first | apply Kd.R_alloc | apply Kd.R_drewN | apply Kd.R_drew)); exact HO177.out) hb)
            have n5_ := Aside0.mk (Kd.R_below (by (with_reducible repeat (first | apply Kd.R_alloc | apply Kd.R_drewN | apply Kd.R_drew)); exact HO183.out) hb)
            have n6_ := Aside0.mk (blk_below (g := gb146) (o := .cells (⟨(.bool a0_0) :: (.slice A0_1 l0_1.length c0_1) :: Arr.arL .i8 a0_2⟩ : Array Value) 42 (0, 0)) (by (with_reducible repeat (first | refine blk_drewN ?_ _ | refine blk_drew ?_ | refine blk_alloc ?_ _)); exact BK146.out) hb)
            have n7_ := Aside0.mk (blk_below (g := gb147) (o := .cells (⟨(.bool a1_0) :: (.slice A1_1 l1_1.length c1_1) :: Arr.arL .i8 a1_2⟩ : Array Value) 42 (0, 0)) (by (with_reducible repeat (first | refine blk_drewN ?_ _ | refine blk_drew ?_ | refine blk_alloc ?_ _)); exact BK147.out) hb)
            have n8_ := Aside0.mk (blk_below (g := gb166) (o := .cells (⟨(.bool t161) :: (.slice Ao54 t162.length co54) :: Arr.arL .i8 t165⟩ : Array Value) 47 (0, 0)) (by (with_reducible repeat (first | refine blk_drewN ?_ _ | refine blk_drew ?_ | refine blk_alloc ?_ _)); exact BK166.out) hb)
            have n9_ := Aside0.mk (blk_below (g := gb172) (o := .cells (⟨(.bool t167) :: (.slice Ao58 t168.length co58) :: Arr.arL .i8 t171⟩ : Array Value) 47 (0, 0)) (by (with_reducible repeat (first | refine blk_drewN ?_ _ | refine blk_drew ?_ | refine blk_alloc ?_ _)); exact BK172.out) hb)
            have n10_ := Aside0.mk (below_step (by repeat (first | (with_reducible first | exact HB.out | apply below_alloc | apply pw_below_drewN | apply below_drew1 | refine below_set ?_ GE146.out | refine below_set ?_ GE147.out | refine below_set ?_ GE166.out | refine below_set ?_ GE172.out) | exact HB.out)) hb)
            clear HO153
            clear HO158
            clear HO164
            clear HO170
            clear HO177
            clear HO183
            clear BK146
            clear BK147
            clear BK166
            clear BK172
            clear HB
            have HO153 := n0_
            have HO158 := n1_
            have HO164 := n2_
            have HO170 := n3_
            have HO177 := n4_
            have HO183 := n5_
            have BK146 := n6_
            have BK147 := n7_
            have BK166 := n8_
            have BK172 := n9_
            have HB := n10_
            clear n0_ n1_ n2_ n3_ n4_ n5_ n6_ n7_ n8_ n9_ n10_
            (try clear hb)
            (try clear hb2)
            (try clear hk)
            (try clear hi)
            refine hK.out _ _ ⟨BK172.out, BK147.out⟩ (fun hHeld => ?_)
            clear hK K
            refine norm_ (a' := ?_) ?_ ?_
            rotate_left
            · show Act.put _ (some 43) _ = _
              simp only [Act.put, List.setIfInBounds_toArray, List.set_cons_zero, List.set_cons_succ, i64_w, i32_w]
              rfl
            refine pure_ (i := 4) (N := some 44) (v := ?_) (a' := ?_) #[true, true, true, true, true] rfl rfl (by kernel_rfl) (fun _ _ _ h => h) (Or.inl ⟨by rfl, ?_⟩) ?_ ?_
            rotate_left
            · intro w'
              go_simp
              with_reducible rfl
            rotate_left
            · simp only [Act.put, List.setIfInBounds_toArray, List.set_cons_zero, List.set_cons_succ, i64_w, i32_w]
              rfl
            refine done_ (by kernel_rfl) ?_
            try go_wp2
            go_ret
            exact ⟨by first | rfl | (simp [errW_none, errW_some] <;> rfl) | (simp [*, errW_none, errW_some] <;> rfl), by repeat (first | (with_reducible first | exact HB.out | apply below_alloc | apply pw_below_drewN | apply below_drew1 | refine below_set ?_ GE146.out | refine below_set ?_ GE147.out | refine below_set ?_ GE166.out | refine below_set ?_ GE172.out) | exact HB.out)⟩
          · replace c40 := Bool.eq_false_iff.mpr c40
            subst c40
            have H1 : (some false) = some r := by rw [if_neg (show ¬ (false = true) by decide)] at H; exact H
            clear H
            have H := H1
            clear H1
            obtain rfl := Option.some.inj H
            cases ht
        · replace c35 := Bool.eq_false_iff.mpr c35
          subst c35
          have H1 : (some false) = some r := by rw [if_neg (show ¬ (false = true) by decide)] at H; exact H
          clear H
          have H := H1
          clear H1
          obtain rfl := Option.some.inj H
          cases ht

end Go.Proofs.Ytgkohbjphajgoaa.MSameHalf
