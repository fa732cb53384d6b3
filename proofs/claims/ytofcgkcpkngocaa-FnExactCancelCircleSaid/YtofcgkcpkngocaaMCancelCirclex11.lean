-- by a program of this session, for this claim
import Derived.Test.YtofcgkcpkngocaaMCancelCirclex0
import Derived.Test.YtofcgkcpkngocaaMCancelCirclex1
import Derived.Test.YtofcgkcpkngocaaMCancelCirclex2
import Derived.Test.YtofcgkcpkngocaaMCancelCirclex7
import Derived.Test.YtofcgkcpkngocaaMCancelCirclex8
import Derived.Test.YtofcgkcpkngocaaMCancelCirclex9
import Derived.Test.YtofcgkcpkngocaaMCancelCirclex10
namespace Go.Proofs.Ytofcgkcpkngocaa.MCancelCircle
open Go.RowKit Go.Proofs.YtofcgkcpkngocaaW.PrintWords Go.Proofs.YtofcgkcpkngocaaW.PrintLast Go.Proofs.YtofcgkcpkngocaaW.PrintMore
attribute [local go_sem] max2_int min2_int max_two min_two max_three min_three max_four min_four   -- for this text's walks alone
set_option linter.unusedVariables false
set_option linter.unusedSimpArgs false

/-! ### impl_CancelCircle: function 33 -/
def impl_CancelCircle.f (k : Nat) (a0 : Int) (l1 : List (S65)) (l2 : List Int) : Option ((List (S65)) × Int × Int) := (impl_debtsCode.f k a0 l1 l2).bind fun t234 => (if t234 = 0 then ((impl_sumsOf.f k l1).bind fun t235 => ((impl_sums_isCircle.f k t235 l2).bind fun bt237 => (if bt237.1 = true then ((impl_sums_debts.f k bt237.2).bind fun bt239 => (if bt239.2 = 0 then ((impl_sums_cancel.f k bt237.2 l2).bind fun bt243 => ((impl_sums_debts.f k bt243.2).bind fun bt245 => (if bt245.2 = 0 then (some (bt245.1, bt243.1, 0)) else (some (([] : List (S65)), 0, bt245.2))))) else (some (([] : List (S65)), 0, bt239.2)))) else (some (([] : List (S65)), 0, 4))))) else (some (([] : List (S65)), 0, t234)))
theorem impl_CancelCircle.mono : ∀ a0 a1 a2 k, LeO (impl_CancelCircle.f k a0 a1 a2) (impl_CancelCircle.f (k + 1) a0 a1 a2) := by
  intro a0 a1 a2 k
  unfold impl_CancelCircle.f
  repeat' first
      | (with_reducible exact impl_debtsCode.mono _ _ _ _)
      | (with_reducible exact impl_sumsOf.mono _ _)
      | (with_reducible exact impl_sums_cancel.mono _ _ _)
      | (with_reducible exact impl_sums_debts.mono _ _)
      | (with_reducible exact impl_sums_isCircle.mono _ _ _)
      | (with_reducible exact LeO.refl _)
      | (with_reducible exact LeO.none _)
      | (with_reducible refine LeO.ite ?_ ?_)
      | (with_reducible refine LeO.bind ?_ (fun _ => ?_))
      | exact impl_debtsCode.mono _ _ _ _
      | exact impl_sumsOf.mono _ _
      | exact impl_sums_cancel.mono _ _ _
      | exact impl_sums_debts.mono _ _
      | exact impl_sums_isCircle.mono _ _ _
      | exact LeO.none _
      | refine LeO.ite ?_ ?_
      | refine LeO.bind ?_ (fun _ => ?_)
set_option maxHeartbeats 8000000 in
set_option maxRecDepth 100000 in
theorem impl_CancelCircle.calls (k : Nat) (a0 : Int) (A1 : Option Addr) (c1 : Nat) (l1 : List (S65)) (A2 : Option Addr) (c2 : Nat) (l2 : List Int) (r1 : List (S65)) (r2 : Int) (r3 : Int) (w : World) (hr1 : Kd.C k65 w A1 l1.length l1) (hc1 : l1.length ≤ c1) (hr2 : Kd.C (Kd.int .i64) w A2 l2.length l2) (hc2 : l2.length ≤ c2) (h : impl_CancelCircle.f k a0 l1 l2 = some (r1, r2, r3)) :
    Calls Try.prog 33 #[.int .i64 a0, .slice A1 l1.length c1, .slice A2 l2.length c2] w fun e w' => ∃ v0_ : Value, e = .returned (.tuple #[v0_, .int .i64 r2, .int .i64 r3]) ∧ Kd.R k65 65 w' w.heap.size (fun _ => True) v0_ r1 ∧ Below w.heap.size w w' := by
  have hu70 := Try.underlying70
  have HR1 := Aside0.mk hr1
  have HC1 := Aside0.mk hc1
  clear hr1 hc1
  have HR2 := Aside0.mk hr2
  have HC2 := Aside0.mk hc2
  clear hr2 hc2
  have HB := Aside0.mk (Below.refl w.heap.size w)
  have H : ((impl_debtsCode.f k a0 l1 l2).bind fun t234 => (if t234 = 0 then ((impl_sumsOf.f k l1).bind fun t235 => ((impl_sums_isCircle.f k t235 l2).bind fun bt237 => (if bt237.1 = true then ((impl_sums_debts.f k bt237.2).bind fun bt239 => (if bt239.2 = 0 then ((impl_sums_cancel.f k bt237.2 l2).bind fun bt243 => ((impl_sums_debts.f k bt243.2).bind fun bt245 => (if bt245.2 = 0 then (some (bt245.1, bt243.1, 0)) else (some (([] : List (S65)), 0, bt245.2))))) else (some (([] : List (S65)), 0, bt239.2)))) else (some (([] : List (S65)), 0, 4))))) else (some (([] : List (S65)), 0, t234)))) = some (r1, r2, r3) := h
  clear h
  replace H := Option.bind_eq_some_iff.mp H
  obtain ⟨t234, A40, H⟩ := H
  replace H : (if t234 = 0 then ((impl_sumsOf.f k l1).bind fun t235 => ((impl_sums_isCircle.f k t235 l2).bind fun bt237 => (if bt237.1 = true then ((impl_sums_debts.f k bt237.2).bind fun bt239 => (if bt239.2 = 0 then ((impl_sums_cancel.f k bt237.2 l2).bind fun bt243 => ((impl_sums_debts.f k bt243.2).bind fun bt245 => (if bt245.2 = 0 then (some (bt245.1, bt243.1, 0)) else (some (([] : List (S65)), 0, bt245.2))))) else (some (([] : List (S65)), 0, bt239.2)))) else (some (([] : List (S65)), 0, 4))))) else (some (([] : List (S65)), 0, t234))) = some (r1, r2, r3) := H
  have A4 := Aside0.mk A40
  clear A40
  by_cases c5 : t234 = 0
  · rw [if_pos c5] at H
    have c5b0 : (t234 == 0) = true := beq_iff_eq.mpr c5
    have c5b1 : (t234 != 0) = false := bne_eq_false_iff_eq.mpr c5
    clear c5
    replace H := Option.bind_eq_some_iff.mp H
    obtain ⟨t235, A60, H⟩ := H
    replace H : ((impl_sums_isCircle.f k t235 l2).bind fun bt237 => (if bt237.1 = true then ((impl_sums_debts.f k bt237.2).bind fun bt239 => (if bt239.2 = 0 then ((impl_sums_cancel.f k bt237.2 l2).bind fun bt243 => ((impl_sums_debts.f k bt243.2).bind fun bt245 => (if bt245.2 = 0 then (some (bt245.1, bt243.1, 0)) else (some (([] : List (S65)), 0, bt245.2))))) else (some (([] : List (S65)), 0, bt239.2)))) else (some (([] : List (S65)), 0, 4)))) = some (r1, r2, r3) := H
    have A6 := Aside0.mk A60
    clear A60
    replace H := Option.bind_eq_some_iff.mp H
    obtain ⟨⟨t237, t238⟩, A80, H⟩ := H
    replace H : (if t237 = true then ((impl_sums_debts.f k t238).bind fun bt239 => (if bt239.2 = 0 then ((impl_sums_cancel.f k t238 l2).bind fun bt243 => ((impl_sums_debts.f k bt243.2).bind fun bt245 => (if bt245.2 = 0 then (some (bt245.1, bt243.1, 0)) else (some (([] : List (S65)), 0, bt245.2))))) else (some (([] : List (S65)), 0, bt239.2)))) else (some (([] : List (S65)), 0, 4))) = some (r1, r2, r3) := H
    have A8 := Aside0.mk A80
    clear A80
    by_cases c9 : t237 = true
    · subst c9
      have H1 : ((impl_sums_debts.f k t238).bind fun bt239 => (if bt239.2 = 0 then ((impl_sums_cancel.f k t238 l2).bind fun bt243 => ((impl_sums_debts.f k bt243.2).bind fun bt245 => (if bt245.2 = 0 then (some (bt245.1, bt243.1, 0)) else (some (([] : List (S65)), 0, bt245.2))))) else (some (([] : List (S65)), 0, bt239.2)))) = some (r1, r2, r3) := by rw [if_pos rfl] at H; exact H
      clear H
      have H := H1
      clear H1
      replace H := Option.bind_eq_some_iff.mp H
      obtain ⟨⟨t239, t242⟩, A110, H⟩ := H
      replace H : (if t242 = 0 then ((impl_sums_cancel.f k t238 l2).bind fun bt243 => ((impl_sums_debts.f k bt243.2).bind fun bt245 => (if bt245.2 = 0 then (some (bt245.1, bt243.1, 0)) else (some (([] : List (S65)), 0, bt245.2))))) else (some (([] : List (S65)), 0, t242))) = some (r1, r2, r3) := H
      have A11 := Aside0.mk A110
      clear A110
      by_cases c12 : t242 = 0
      · rw [if_pos c12] at H
        have c12b0 : (t242 == 0) = true := beq_iff_eq.mpr c12
        have c12b1 : (t242 != 0) = false := bne_eq_false_iff_eq.mpr c12
        clear c12
        replace H := Option.bind_eq_some_iff.mp H
        obtain ⟨⟨t243, t244⟩, A130, H⟩ := H
        replace H : ((impl_sums_debts.f k t244).bind fun bt245 => (if bt245.2 = 0 then (some (bt245.1, t243, 0)) else (some (([] : List (S65)), 0, bt245.2)))) = some (r1, r2, r3) := H
        have A13 := Aside0.mk A130
        clear A130
        replace H := Option.bind_eq_some_iff.mp H
        obtain ⟨⟨t245, t248⟩, A150, H⟩ := H
        replace H : (if t248 = 0 then (some (t245, t243, 0)) else (some (([] : List (S65)), 0, t248))) = some (r1, r2, r3) := H
        have A15 := Aside0.mk A150
        clear A150
        by_cases c16 : t248 = 0
        · rw [if_pos c16] at H
          have c16b0 : (t248 == 0) = true := beq_iff_eq.mpr c16
          have c16b1 : (t248 != 0) = false := bne_eq_false_iff_eq.mpr c16
          clear c16
          simp only [Option.some.injEq, Prod.mk.injEq] at H
          obtain ⟨rfl, rfl, rfl⟩ := H
          go_enter Try.func33, Try.ntmps33
          go_wp2_with (first | ((with_reducible refine gate_callee (f := 56) rfl ?_); refine goesL_ (some 19) rfl rfl Try.func56 (by kernel_rfl) rfl #[.int .i64 a0, .slice A1 l1.length c1, .slice A2 l2.length c2] rfl (by (try simp only [List.map_toArray, List.map_cons, List.map_nil]); first | done | (go_simp; done) | rfl | (simp only [List.length_drop, List.length_take]; rfl)) ?_; (with_reducible refine (impl_debtsCode.calls k a0 _ _ l1 _ _ l2 t234 _ ?side1 ?side2 ?side3 ?side4 A4.out).mono ?_); (case side1 => repeat (first | exact HR1.out | (with_reducible refine Kd.C_alloc ?_ _) | (with_reducible refine Kd.C_drewN ?_ _) | (with_reducible refine Kd.C_drew ?_))); (case side2 => exact HC1.out); (case side3 => repeat (first | exact HR2.out | (with_reducible refine Kd.C_alloc ?_ _) | (with_reducible refine Kd.C_drewN ?_ _) | (with_reducible refine Kd.C_drew ?_))); (case side4 => exact HC2.out); rintro e w17 ⟨rfl, hb⟩; refine ⟨_, rfl, ?_⟩; have n0_ := Aside0.mk (below_step (by repeat (first | (with_reducible first | exact HB.out | apply below_alloc | apply pw_below_drewN | apply below_drew1) | exact HB.out)) hb); clear HB; have HB := n0_; clear n0_; (try clear hb); (try clear hb2); (try clear hk); (try clear hi)) | ((with_reducible refine gate_callee (f := 57) rfl ?_); refine goesL_ (some 24) rfl rfl Try.func57 (by kernel_rfl) rfl #[.slice A1 l1.length c1] rfl (by (try simp only [List.map_toArray, List.map_cons, List.map_nil]); first | done | (go_simp; done) | rfl | (simp only [List.length_drop, List.length_take]; rfl)) ?_; (with_reducible refine (impl_sumsOf.calls k _ _ l1 t235 _ ?side1 ?side2 A6.out).mono ?_); (case side1 => repeat (first | exact (Kd.C_below HR1.out HB.out) | (with_reducible refine Kd.C_alloc ?_ _) | (with_reducible refine Kd.C_drewN ?_ _) | (with_reducible refine Kd.C_drew ?_))); (case side2 => exact HC1.out); rintro e w18 ⟨rfl, hb⟩; refine ⟨_, rfl, ?_⟩; have n0_ := Aside0.mk (below_step (by repeat (first | (with_reducible first | exact HB.out | apply below_alloc | apply pw_below_drewN | apply below_drew1) | exact HB.out)) hb); clear HB; have HB := n0_; clear n0_; (try clear hb); (try clear hb2); (try clear hk); (try clear hi)) | ((with_reducible refine gate_dst (N := 10) rfl ?_); refine box_event ?hg (N := 10) ?hd (cs := (⟨Arr.arL .i64 (Vector.replicate 256 0 : Vector Int 256)⟩ : Array Value)) (t := 70) ?hr ?_; (case hd => rfl); (case hg => rfl); (case hr => first | (go_simp; done) | (go_simp; rfl)); intro gb236 hg w19 hbox hb; have n0_ := Aside0.mk (below_step (by repeat (first | (with_reducible first | exact HB.out | apply below_alloc | apply pw_below_drewN | apply below_drew1) | exact HB.out)) hb); have n1_ := Aside0.mk (hbox); have n2_ := Aside0.mk ((by rw [hg]; exact (below_size (by repeat (first | (with_reducible first | exact HB.out | apply below_alloc | apply pw_below_drewN | apply below_drew1) | exact HB.out))) : w.heap.size ≤ gb236)); have n3_ := Aside0.mk ((by rw [hg]; exact (below_size (by repeat (first | (with_reducible first | exact HB.out | apply below_alloc | apply pw_below_drewN | apply below_drew1) | exact HB.out))) : w.heap.size ≤ gb236)); clear HB; have HB := n0_; have BK236 := n1_; have GW236 := n2_; have GE236 := n3_; clear n0_ n1_ n2_ n3_; clear hb hbox hg) | ((with_reducible refine gate_store (t := 70) (p := 10) rfl ?_); refine Arr.storeA ?hg (T := 70) (p := 10) (v := ?vo_w20) ?ho ?hn (g := gb236) (off := 0) ?hx (m := (Arr.arL .i64 t235)) ?hy (t := 70) (pre := []) (old := (Arr.arL .i64 (Vector.replicate 256 0 : Vector Int 256))) (show w19.heap[gb236]? = some (.cells (⟨Arr.arL .i64 (Vector.replicate 256 0 : Vector Int 256)⟩ : Array Value) 70 (0, 0)) from by (with_reducible repeat (first | refine blk_drewN ?_ _ | refine blk_drew ?_ | refine blk_alloc ?_ _)); exact BK236.out) rfl (by simp [Arr.arL_length]) (n := 256) (by kernel_rfl) (by simp [Arr.arL_length]) (Arr.ones_0 ) ?_; (case ho => rfl); (case hg => rfl); (case hn => rfl); (case hx => first | (go_simp; done) | rfl | (go_simp; rfl)); (case hy => first | (go_simp; done) | rfl | (go_simp; rfl)); intro w20 hbx hg hbe; replace hbx : w20.heap[gb236]? = some (.cells (⟨Arr.arL .i64 t235⟩ : Array Value) 70 (0, 0)) := hbx; have n0_ := Aside0.mk (hbx); have n1_ := Aside0.mk (hbe _ _ (by repeat (first | (with_reducible first | exact HB.out | apply below_alloc | apply pw_below_drewN | apply below_drew1 | refine below_set ?_ GE236.out) | exact HB.out)) GE236.out); clear BK236; clear HB; have BK236 := n0_; have HB := n1_; clear n0_ n1_; (try clear hbx hg hbe); have HI236 := Aside0.mk (show IsS70 w w20 gb236 t235 from ⟨BK236.out, GW236.out⟩); clear BK236) | ((with_reducible refine gate_callee (f := 70) rfl ?_); refine goesL_ (some 26) rfl rfl Try.func70 (by kernel_rfl) rfl #[.pointer (some ⟨gb236, 0, none⟩), .slice A2 l2.length c2] rfl (by (try simp only [List.map_toArray, List.map_cons, List.map_nil]); first | done | (go_simp; done) | rfl | (simp only [List.length_drop, List.length_take]; rfl)) ?_; (with_reducible refine (impl_sums_isCircle.calls k gb236 t235 _ _ l2 true t238 w _ ?side1 ?side2 ?side3 ?side4 ?side5 A8.out).mono ?_); (case side1 => repeat (first | (with_reducible first | exact HI236.out | apply IsS70.alloc | apply IsS70.drewN | apply IsS70.drew | apply IsS70.set_0) | exact HI236.out)); (case side2 => repeat (first | (with_reducible first | exact HB.out | apply below_alloc | apply pw_below_drewN | apply below_drew1 | refine below_set ?_ (IsS70.ge HI236.out)) | exact HB.out)); (case side3 => repeat (first | exact (Kd.C_below HR2.out HB.out) | (with_reducible refine Kd.C_alloc ?_ _) | (with_reducible refine Kd.C_drewN ?_ _) | (with_reducible refine Kd.C_drew ?_))); (case side4 => exact HC2.out); (case side5 => exact Kd.far_C 0 HR2.out (IsS70.ge HI236.out)); rintro e w21 ⟨rfl, hi, hb, hk⟩; refine ⟨_, rfl, ?_⟩; have n0_ := Aside0.mk (hb); have n1_ := Aside0.mk (hi); clear HB; clear HI236; have HB := n0_; have HI236 := n1_; clear n0_ n1_; (try clear hb); (try clear hb2); (try clear hk); (try clear hi)) | ((with_reducible refine Arr.gate_load (t := 70) (p := 10) rfl ?_); (try (refine gate_guard (by rfl) ?_; dsimp only)); refine Arr.loadA ?hg (T := 70) (p := 10) ?ho (g := gb236) (off := 0) ?hx (t := 70) (l := (Arr.arL .i64 t238)) (m := (Arr.arL .i64 t238)) (fr := (0, 0)) ((show IsS70 w w21 gb236 t238 from by repeat (first | (with_reducible first | exact HI236.out | apply IsS70.alloc | apply IsS70.drewN | apply IsS70.drew | apply IsS70.set_0) | exact HI236.out)).1) rfl Try.underlying70 rfl (n := 256) (by kernel_rfl) (by simp [Arr.arL_length]) ?_; (case hg => rfl); (case ho => rfl); (case hx => first | (go_simp; done) | rfl | (go_simp; rfl))) | ((with_reducible refine gate_callee (f := 62) rfl ?_); refine goesL_ (some 30) rfl rfl Try.func62 (by kernel_rfl) rfl #[.agg (⟨Arr.arL .i64 t238⟩ : Array Value)] rfl (by (try simp only [List.map_toArray, List.map_cons, List.map_nil]); first | done | (go_simp; done) | rfl | (simp only [List.length_drop, List.length_take]; rfl)) ?_; (with_reducible refine (impl_sums_debts.calls k t238 t239 t242 _ A11.out).mono ?_); rintro e w22 ⟨v240, rfl, ho0, hb⟩; refine ⟨_, rfl, ?_⟩; have n0_ := Aside0.mk (Kd.R_lower ho0 (below_size (by repeat (first | (with_reducible first | exact HB.out | apply below_alloc | apply pw_below_drewN | apply below_drew1 | refine below_set ?_ (IsS70.ge HI236.out)) | exact HB.out)))); have n1_ := Aside0.mk (IsS70.below (by repeat (first | (with_reducible first | exact HI236.out | apply IsS70.alloc | apply IsS70.drewN | apply IsS70.drew | apply IsS70.set_0) | exact HI236.out)) hb); have n2_ := Aside0.mk (below_step (by repeat (first | (with_reducible first | exact HB.out | apply below_alloc | apply pw_below_drewN | apply below_drew1 | refine below_set ?_ (IsS70.ge HI236.out)) | exact HB.out)) hb); clear HI236; clear HB; have HO241 := n0_; have HI236 := n1_; have HB := n2_; clear n0_ n1_ n2_; (try clear hb); (try clear hb2); (try clear hk); (try clear hi); (try clear ho0)) | ((with_reducible refine gate_callee (f := 71) rfl ?_); refine goesL_ (some 37) rfl rfl Try.func71 (by kernel_rfl) rfl #[.pointer (some ⟨gb236, 0, none⟩), .slice A2 l2.length c2] rfl (by (try simp only [List.map_toArray, List.map_cons, List.map_nil]); first | done | (go_simp; done) | rfl | (simp only [List.length_drop, List.length_take]; rfl)) ?_; (with_reducible refine (impl_sums_cancel.calls k gb236 t238 _ _ l2 t243 t244 w _ ?side1 ?side2 ?side3 ?side4 ?side5 A13.out).mono ?_); (case side1 => repeat (first | (with_reducible first | exact HI236.out | apply IsS70.alloc | apply IsS70.drewN | apply IsS70.drew | apply IsS70.set_0) | exact HI236.out)); (case side2 => repeat (first | (with_reducible first | exact HB.out | apply below_alloc | apply pw_below_drewN | apply below_drew1 | refine below_set ?_ (IsS70.ge HI236.out)) | exact HB.out)); (case side3 => repeat (first | exact (Kd.C_below HR2.out HB.out) | (with_reducible refine Kd.C_alloc ?_ _) | (with_reducible refine Kd.C_drewN ?_ _) | (with_reducible refine Kd.C_drew ?_))); (case side4 => exact HC2.out); (case side5 => exact Kd.far_C 0 HR2.out (IsS70.ge HI236.out)); rintro e w23 ⟨rfl, hi, hb, hk⟩; refine ⟨_, rfl, ?_⟩; have n0_ := Aside0.mk (Kd.R_mono (Kd.R_keep (IsS70.apart (show IsS70 w _ gb236 t238 from by repeat (first | (with_reducible first | exact HI236.out | apply IsS70.alloc | apply IsS70.drewN | apply IsS70.drew | apply IsS70.set_0) | exact HI236.out)) (by (with_reducible repeat (first | apply Kd.R_alloc | apply Kd.R_drewN | apply Kd.R_drew)); exact HO241.out) (by decide)) hk (fun _ h => h.2)) (fun _ h => h.1)); have n1_ := Aside0.mk (hb); have n2_ := Aside0.mk (hi); clear HO241; clear HB; clear HI236; have HO241 := n0_; have HB := n1_; have HI236 := n2_; clear n0_ n1_ n2_; (try clear hb); (try clear hb2); (try clear hk); (try clear hi)) | ((with_reducible refine Arr.gate_load (t := 70) (p := 10) rfl ?_); (try (refine gate_guard (by rfl) ?_; dsimp only)); refine Arr.loadA ?hg (T := 70) (p := 10) ?ho (g := gb236) (off := 0) ?hx (t := 70) (l := (Arr.arL .i64 t244)) (m := (Arr.arL .i64 t244)) (fr := (0, 0)) ((show IsS70 w w23 gb236 t244 from by repeat (first | (with_reducible first | exact HI236.out | apply IsS70.alloc | apply IsS70.drewN | apply IsS70.drew | apply IsS70.set_0) | exact HI236.out)).1) rfl Try.underlying70 rfl (n := 256) (by kernel_rfl) (by simp [Arr.arL_length]) ?_; (case hg => rfl); (case ho => rfl); (case hx => first | (go_simp; done) | rfl | (go_simp; rfl))) | ((with_reducible refine gate_callee (f := 62) rfl ?_); refine goesL_ (some 40) rfl rfl Try.func62 (by kernel_rfl) rfl #[.agg (⟨Arr.arL .i64 t244⟩ : Array Value)] rfl (by (try simp only [List.map_toArray, List.map_cons, List.map_nil]); first | done | (go_simp; done) | rfl | (simp only [List.length_drop, List.length_take]; rfl)) ?_; (with_reducible refine (impl_sums_debts.calls k t244 t245 t248 _ A15.out).mono ?_); rintro e w24 ⟨v246, rfl, ho0, hb⟩; refine ⟨_, rfl, ?_⟩; have n0_ := Aside0.mk (Kd.R_elder' (by (with_reducible repeat (first | apply Kd.R_alloc | apply Kd.R_drewN | apply Kd.R_drew)); exact HO241.out) (Kd.R_base ho0) hb); have n1_ := Aside0.mk (Kd.R_lower (Kd.R_new' ho0 (Kd.R_lt (by (with_reducible repeat (first | apply Kd.R_alloc | apply Kd.R_drewN | apply Kd.R_drew)); exact HO241.out))) (below_size (by repeat (first | (with_reducible first | exact HB.out | apply below_alloc | apply pw_below_drewN | apply below_drew1 | refine below_set ?_ (IsS70.ge HI236.out)) | exact HB.out)))); have n2_ := Aside0.mk (IsS70.below (by repeat (first | (with_reducible first | exact HI236.out | apply IsS70.alloc | apply IsS70.drewN | apply IsS70.drew | apply IsS70.set_0) | exact HI236.out)) hb); have n3_ := Aside0.mk (below_step (by repeat (first | (with_reducible first | exact HB.out | apply below_alloc | apply pw_below_drewN | apply below_drew1 | refine below_set ?_ (IsS70.ge HI236.out)) | exact HB.out)) hb); clear HO241; clear HI236; clear HB; have HO241 := n0_; have HO247 := n1_; have HI236 := n2_; have HB := n3_; clear n0_ n1_ n2_ n3_; (try clear hb); (try clear hb2); (try clear hk); (try clear hi); (try clear ho0)))
          go_ret3
          exact ⟨_, by first | rfl | (simp [errW_none, errW_some] <;> rfl) | (simp [*, errW_none, errW_some] <;> rfl), by (with_reducible repeat (first | apply Kd.R_alloc | apply Kd.R_drewN | apply Kd.R_drew)); exact Kd.R_mono HO247.out (fun _ hk => trivial), by repeat (first | (with_reducible first | exact HB.out | apply below_alloc | apply pw_below_drewN | apply below_drew1 | refine below_set ?_ (IsS70.ge HI236.out)) | exact HB.out)⟩
        · rw [if_neg c16] at H
          have c16b0 : (t248 == 0) = false := beq_eq_false_iff_ne.mpr c16
          have c16b1 : (t248 != 0) = true := bne_iff_ne.mpr c16
          simp only [Option.some.injEq, Prod.mk.injEq] at H
          obtain ⟨rfl, rfl, rfl⟩ := H
          go_enter Try.func33, Try.ntmps33
          go_wp2_with (first | ((with_reducible refine gate_callee (f := 56) rfl ?_); refine goesL_ (some 19) rfl rfl Try.func56 (by kernel_rfl) rfl #[.int .i64 a0, .slice A1 l1.length c1, .slice A2 l2.length c2] rfl (by (try simp only [List.map_toArray, List.map_cons, List.map_nil]); first | done | (go_simp; done) | rfl | (simp only [List.length_drop, List.length_take]; rfl)) ?_; (with_reducible refine (impl_debtsCode.calls k a0 _ _ l1 _ _ l2 t234 _ ?side1 ?side2 ?side3 ?side4 A4.out).mono ?_); (case side1 => repeat (first | exact HR1.out | (with_reducible refine Kd.C_alloc ?_ _) | (with_reducible refine Kd.C_drewN ?_ _) | (with_reducible refine Kd.C_drew ?_))); (case side2 => exact HC1.out); (case side3 => repeat (first | exact HR2.out | (with_reducible refine Kd.C_alloc ?_ _) | (with_reducible refine Kd.C_drewN ?_ _) | (with_reducible refine Kd.C_drew ?_))); (case side4 => exact HC2.out); rintro e w25 ⟨rfl, hb⟩; refine ⟨_, rfl, ?_⟩; have n0_ := Aside0.mk (below_step (by repeat (first | (with_reducible first | exact HB.out | apply below_alloc | apply pw_below_drewN | apply below_drew1) | exact HB.out)) hb); clear HB; have HB := n0_; clear n0_; (try clear hb); (try clear hb2); (try clear hk); (try clear hi)) | ((with_reducible refine gate_callee (f := 57) rfl ?_); refine goesL_ (some 24) rfl rfl Try.func57 (by kernel_rfl) rfl #[.slice A1 l1.length c1] rfl (by (try simp only [List.map_toArray, List.map_cons, List.map_nil]); first | done | (go_simp; done) | rfl | (simp only [List.length_drop, List.length_take]; rfl)) ?_; (with_reducible refine (impl_sumsOf.calls k _ _ l1 t235 _ ?side1 ?side2 A6.out).mono ?_); (case side1 => repeat (first | exact (Kd.C_below HR1.out HB.out) | (with_reducible refine Kd.C_alloc ?_ _) | (with_reducible refine Kd.C_drewN ?_ _) | (with_reducible refine Kd.C_drew ?_))); (case side2 => exact HC1.out); rintro e w26 ⟨rfl, hb⟩; refine ⟨_, rfl, ?_⟩; have n0_ := Aside0.mk (below_step (by repeat (first | (with_reducible first | exact HB.out | apply below_alloc | apply pw_below_drewN | apply below_drew1) | exact HB.out)) hb); clear HB; have HB := n0_; clear n0_; (try clear hb); (try clear hb2); (try clear hk); (try clear hi)) | ((with_reducible refine gate_dst (N := 10) rfl ?_); refine box_event ?hg (N := 10) ?hd (cs := (⟨Arr.arL .i64 (Vector.replicate 256 0 : Vector Int 256)⟩ : Array Value)) (t := 70) ?hr ?_; (case hd => rfl); (case hg => rfl); (case hr => first | (go_simp; done) | (go_simp; rfl)); intro gb236 hg w27 hbox hb; have n0_ := Aside0.mk (below_step (by repeat (first | (with_reducible first | exact HB.out | apply below_alloc | apply pw_below_drewN | apply below_drew1) | exact HB.out)) hb); have n1_ := Aside0.mk (hbox); have n2_ := Aside0.mk ((by rw [hg]; exact (below_size (by repeat (first | (with_reducible first | exact HB.out | apply below_alloc | apply pw_below_drewN | apply below_drew1) | exact HB.out))) : w.heap.size ≤ gb236)); have n3_ := Aside0.mk ((by rw [hg]; exact (below_size (by repeat (first | (with_reducible first | exact HB.out | apply below_alloc | apply pw_below_drewN | apply below_drew1) | exact HB.out))) : w.heap.size ≤ gb236)); clear HB; have HB := n0_; have BK236 := n1_; have GW236 := n2_; have GE236 := n3_; clear n0_ n1_ n2_ n3_; clear hb hbox hg) | ((with_reducible refine gate_store (t := 70) (p := 10) rfl ?_); refine Arr.storeA ?hg (T := 70) (p := 10) (v := ?vo_w28) ?ho ?hn (g := gb236) (off := 0) ?hx (m := (Arr.arL .i64 t235)) ?hy (t := 70) (pre := []) (old := (Arr.arL .i64 (Vector.replicate 256 0 : Vector Int 256))) (show w27.heap[gb236]? = some (.cells (⟨Arr.arL .i64 (Vector.replicate 256 0 : Vector Int 256)⟩ : Array Value) 70 (0, 0)) from by (with_reducible repeat (first | refine blk_drewN ?_ _ | refine blk_drew ?_ | refine blk_alloc ?_ _)); exact BK236.out) rfl (by simp [Arr.arL_length]) (n := 256) (by kernel_rfl) (by simp [Arr.arL_length]) (Arr.ones_0 ) ?_; (case ho => rfl); (case hg => rfl); (case hn => rfl); (case hx => first | (go_simp; done) | rfl | (go_simp; rfl)); (case hy => first | (go_simp; done) | rfl | (go_simp; rfl)); intro w28 hbx hg hbe; replace hbx : w28.heap[gb236]? = some (.cells (⟨Arr.arL .i64 t235⟩ : Array Value) 70 (0, 0)) := hbx; have n0_ := Aside0.mk (hbx); have n1_ := Aside0.mk (hbe _ _ (by repeat (first | (with_reducible first | exact HB.out | apply below_alloc | apply pw_below_drewN | apply below_drew1 | refine below_set ?_ GE236.out) | exact HB.out)) GE236.out); clear BK236; clear HB; have BK236 := n0_; have HB := n1_; clear n0_ n1_; (try clear hbx hg hbe); have HI236 := Aside0.mk (show IsS70 w w28 gb236 t235 from ⟨BK236.out, GW236.out⟩); clear BK236) | ((with_reducible refine gate_callee (f := 70) rfl ?_); refine goesL_ (some 26) rfl rfl Try.func70 (by kernel_rfl) rfl #[.pointer (some ⟨gb236, 0, none⟩), .slice A2 l2.length c2] rfl (by (try simp only [List.map_toArray, List.map_cons, List.map_nil]); first | done | (go_simp; done) | rfl | (simp only [List.length_drop, List.length_take]; rfl)) ?_; (with_reducible refine (impl_sums_isCircle.calls k gb236 t235 _ _ l2 true t238 w _ ?side1 ?side2 ?side3 ?side4 ?side5 A8.out).mono ?_); (case side1 => repeat (first | (with_reducible first | exact HI236.out | apply IsS70.alloc | apply IsS70.drewN | apply IsS70.drew | apply IsS70.set_0) | exact HI236.out)); (case side2 => repeat (first | (with_reducible first | exact HB.out | apply below_alloc | apply pw_below_drewN | apply below_drew1 | refine below_set ?_ (IsS70.ge HI236.out)) | exact HB.out)); (case side3 => repeat (first | exact (Kd.C_below HR2.out HB.out) | (with_reducible refine Kd.C_alloc ?_ _) | (with_reducible refine Kd.C_drewN ?_ _) | (with_reducible refine Kd.C_drew ?_))); (case side4 => exact HC2.out); (case side5 => exact Kd.far_C 0 HR2.out (IsS70.ge HI236.out)); rintro e w29 ⟨rfl, hi, hb, hk⟩; refine ⟨_, rfl, ?_⟩; have n0_ := Aside0.mk (hb); have n1_ := Aside0.mk (hi); clear HB; clear HI236; have HB := n0_; have HI236 := n1_; clear n0_ n1_; (try clear hb); (try clear hb2); (try clear hk); (try clear hi)) | ((with_reducible refine Arr.gate_load (t := 70) (p := 10) rfl ?_); (try (refine gate_guard (by rfl) ?_; dsimp only)); refine Arr.loadA ?hg (T := 70) (p := 10) ?ho (g := gb236) (off := 0) ?hx (t := 70) (l := (Arr.arL .i64 t238)) (m := (Arr.arL .i64 t238)) (fr := (0, 0)) ((show IsS70 w w29 gb236 t238 from by repeat (first | (with_reducible first | exact HI236.out | apply IsS70.alloc | apply IsS70.drewN | apply IsS70.drew | apply IsS70.set_0) | exact HI236.out)).1) rfl Try.underlying70 rfl (n := 256) (by kernel_rfl) (by simp [Arr.arL_length]) ?_; (case hg => rfl); (case ho => rfl); (case hx => first | (go_simp; done) | rfl | (go_simp; rfl))) | ((with_reducible refine gate_callee (f := 62) rfl ?_); refine goesL_ (some 30) rfl rfl Try.func62 (by kernel_rfl) rfl #[.agg (⟨Arr.arL .i64 t238⟩ : Array Value)] rfl (by (try simp only [List.map_toArray, List.map_cons, List.map_nil]); first | done | (go_simp; done) | rfl | (simp only [List.length_drop, List.length_take]; rfl)) ?_; (with_reducible refine (impl_sums_debts.calls k t238 t239 t242 _ A11.out).mono ?_); rintro e w30 ⟨v240, rfl, ho0, hb⟩; refine ⟨_, rfl, ?_⟩; have n0_ := Aside0.mk (Kd.R_lower ho0 (below_size (by repeat (first | (with_reducible first | exact HB.out | apply below_alloc | apply pw_below_drewN | apply below_drew1 | refine below_set ?_ (IsS70.ge HI236.out)) | exact HB.out)))); have n1_ := Aside0.mk (IsS70.below (by repeat (first | (with_reducible first | exact HI236.out | apply IsS70.alloc | apply IsS70.drewN | apply IsS70.drew | apply IsS70.set_0) | exact HI236.out)) hb); have n2_ := Aside0.mk (below_step (by repeat (first | (with_reducible first | exact HB.out | apply below_alloc | apply pw_below_drewN | apply below_drew1 | refine below_set ?_ (IsS70.ge HI236.out)) | exact HB.out)) hb); clear HI236; clear HB; have HO241 := n0_; have HI236 := n1_; have HB := n2_; clear n0_ n1_ n2_; (try clear hb); (try clear hb2); (try clear hk); (try clear hi); (try clear ho0)) | ((with_reducible refine gate_callee (f := 71) rfl ?_); refine goesL_ (some 37) rfl rfl Try.func71 (by kernel_rfl) rfl #[.pointer (some ⟨gb236, 0, none⟩), .slice A2 l2.length c2] rfl (by (try simp only [List.map_toArray, List.map_cons, List.map_nil]); first | done | (go_simp; done) | rfl | (simp only [List.length_drop, List.length_take]; rfl)) ?_; (with_reducible refine (impl_sums_cancel.calls k gb236 t238 _ _ l2 t243 t244 w _ ?side1 ?side2 ?side3 ?side4 ?side5 A13.out).mono ?_); (case side1 => repeat (first | (with_reducible first | exact HI236.out | apply IsS70.alloc | apply IsS70.drewN | apply IsS70.drew | apply IsS70.set_0) | exact HI236.out)); (case side2 => repeat (first | (with_reducible first | exact HB.out | apply below_alloc | apply pw_below_drewN | apply below_drew1 | refine below_set ?_ (IsS70.ge HI236.out)) | exact HB.out)); (case side3 => repeat (first | exact (Kd.C_below HR2.out HB.out) | (with_reducible refine Kd.C_alloc ?_ _) | (with_reducible refine Kd.C_drewN ?_ _) | (with_reducible refine Kd.C_drew ?_))); (case side4 => exact HC2.out); (case side5 => exact Kd.far_C 0 HR2.out (IsS70.ge HI236.out)); rintro e w31 ⟨rfl, hi, hb, hk⟩; refine ⟨_, rfl, ?_⟩; have n0_ := Aside0.mk (Kd.R_mono (Kd.R_keep (IsS70.apart (show IsS70 w _ gb236 t238 from by repeat (first | (with_reducible first | exact HI236.out | apply IsS70.alloc | apply IsS70.drewN | apply IsS70.drew | apply IsS70.set_0) | exact HI236.out)) (by (with_reducible repeat (first | apply Kd.R_alloc | apply Kd.R_drewN | apply Kd.R_drew)); exact HO241.out) (by decide)) hk (fun _ h => h.2)) (fun _ h => h.1)); have n1_ := Aside0.mk (hb); have n2_ := Aside0.mk (hi); clear HO241; clear HB; clear HI236; have HO241 := n0_; have HB := n1_; have HI236 := n2_; clear n0_ n1_ n2_; (try clear hb); (try clear hb2); (try clear hk); (try clear hi)) | ((with_reducible refine Arr.gate_load (t := 70) (p := 10) rfl ?_); (try (refine gate_guard (by rfl) ?_; dsimp only)); refine Arr.loadA ?hg (T := 70) (p := 10) ?ho (g := gb236) (off := 0) ?hx (t := 70) (l := (Arr.arL .i64 t244)) (m := (Arr.arL .i64 t244)) (fr := (0, 0)) ((show IsS70 w w31 gb236 t244 from by repeat (first | (with_reducible first | exact HI236.out | apply IsS70.alloc | apply IsS70.drewN | apply IsS70.drew | apply IsS70.set_0) | exact HI236.out)).1) rfl Try.underlying70 rfl (n := 256) (by kernel_rfl) (by simp [Arr.arL_length]) ?_; (case hg => rfl); (case ho => rfl); (case hx => first | (go_simp; done) | rfl | (go_simp; rfl))) | ((with_reducible refine gate_callee (f := 62) rfl ?_); refine goesL_ (some 40) rfl rfl Try.func62 (by kernel_rfl) rfl #[.agg (⟨Arr.arL .i64 t244⟩ : Array Value)] rfl (by (try simp only [List.map_toArray, List.map_cons, List.map_nil]); first | done | (go_simp; done) | rfl | (simp only [List.length_drop, List.length_take]; rfl)) ?_; (with_reducible refine (impl_sums_debts.calls k t244 t245 t248 _ A15.out).mono ?_); rintro e w32 ⟨v246, rfl, ho0, hb⟩; refine ⟨_, rfl, ?_⟩; have n0_ := Aside0.mk (Kd.R_elder' (by (with_reducible repeat (first | apply Kd.R_alloc | apply Kd.R_drewN | apply Kd.R_drew)); exact HO241.out) (Kd.R_base ho0) hb); have n1_ := Aside0.mk (Kd.R_lower (Kd.R_new' ho0 (Kd.R_lt (by (with_reducible repeat (first | apply Kd.R_alloc | apply Kd.R_drewN | apply Kd.R_drew)); exact HO241.out))) (below_size (by repeat (first | (with_reducible first | exact HB.out | apply below_alloc | apply pw_below_drewN | apply below_drew1 | refine below_set ?_ (IsS70.ge HI236.out)) | exact HB.out)))); have n2_ := Aside0.mk (IsS70.below (by repeat (first | (with_reducible first | exact HI236.out | apply IsS70.alloc | apply IsS70.drewN | apply IsS70.drew | apply IsS70.set_0) | exact HI236.out)) hb); have n3_ := Aside0.mk (below_step (by repeat (first | (with_reducible first | exact HB.out | apply below_alloc | apply pw_below_drewN | apply below_drew1 | refine below_set ?_ (IsS70.ge HI236.out)) | exact HB.out)) hb); clear HO241; clear HI236; clear HB; have HO241 := n0_; have HO247 := n1_; have HI236 := n2_; have HB := n3_; clear n0_ n1_ n2_ n3_; (try clear hb); (try clear hb2); (try clear hk); (try clear hi); (try clear ho0)))
          go_ret3
          exact ⟨_, by first | rfl | (simp [errW_none, errW_some] <;> rfl) | (simp [*, errW_none, errW_some] <;> rfl), by first | exact Kd.R_nil _ _ _ _ _ | exact Kd.N_nil _ _ _ _ _ | exact Kd.V_nil _ _ _ _ _ | exact Kd.Q_nil _ _ _ _ _ | exact Kd.S_nil _ _ _ _ _, by repeat (first | (with_reducible first | exact HB.out | apply below_alloc | apply pw_below_drewN | apply below_drew1 | refine below_set ?_ (IsS70.ge HI236.out)) | exact HB.out)⟩
      · rw [if_neg c12] at H
        have c12b0 : (t242 == 0) = false := beq_eq_false_iff_ne.mpr c12
        have c12b1 : (t242 != 0) = true := bne_iff_ne.mpr c12
        simp only [Option.some.injEq, Prod.mk.injEq] at H
        obtain ⟨rfl, rfl, rfl⟩ := H
        go_enter Try.func33, Try.ntmps33
        go_wp2_with (first | ((with_reducible refine gate_callee (f := 56) rfl ?_); refine goesL_ (some 19) rfl rfl Try.func56 (by kernel_rfl) rfl #[.int .i64 a0, .slice A1 l1.length c1, .slice A2 l2.length c2] rfl (by (try simp only [List.map_toArray, List.map_cons, List.map_nil]); first | done | (go_simp; done) | rfl | (simp only [List.length_drop, List.length_take]; rfl)) ?_; (with_reducible refine (impl_debtsCode.calls k a0 _ _ l1 _ _ l2 t234 _ ?side1 ?side2 ?side3 ?side4 A4.out).mono ?_); (case side1 => repeat (first | exact HR1.out | (with_reducible refine Kd.C_alloc ?_ _) | (with_reducible refine Kd.C_drewN ?_ _) | (with_reducible refine Kd.C_drew ?_))); (case side2 => exact HC1.out); (case side3 => repeat (first | exact HR2.out | (with_reducible refine Kd.C_alloc ?_ _) | (with_reducible refine Kd.C_drewN ?_ _) | (with_reducible refine Kd.C_drew ?_))); (case side4 => exact HC2.out); rintro e w33 ⟨rfl, hb⟩; refine ⟨_, rfl, ?_⟩; have n0_ := Aside0.mk (below_step (by repeat (first | (with_reducible first | exact HB.out | apply below_alloc | apply pw_below_drewN | apply below_drew1) | exact HB.out)) hb); clear HB; have HB := n0_; clear n0_; (try clear hb); (try clear hb2); (try clear hk); (try clear hi)) | ((with_reducible refine gate_callee (f := 57) rfl ?_); refine goesL_ (some 24) rfl rfl Try.func57 (by kernel_rfl) rfl #[.slice A1 l1.length c1] rfl (by (try simp only [List.map_toArray, List.map_cons, List.map_nil]); first | done | (go_simp; done) | rfl | (simp only [List.length_drop, List.length_take]; rfl)) ?_; (with_reducible refine (impl_sumsOf.calls k _ _ l1 t235 _ ?side1 ?side2 A6.out).mono ?_); (case side1 => repeat (first | exact (Kd.C_below HR1.out HB.out) | (with_reducible refine Kd.C_alloc ?_ _) | (with_reducible refine Kd.C_drewN ?_ _) | (with_reducible refine Kd.C_drew ?_))); (case side2 => exact HC1.out); rintro e w34 ⟨rfl, hb⟩; refine ⟨_, rfl, ?_⟩; have n0_ := Aside0.mk (below_step (by repeat (first | (with_reducible first | exact HB.out | apply below_alloc | apply pw_below_drewN | apply below_drew1) | exact HB.out)) hb); clear HB; have HB := n0_; clear n0_; (try clear hb); (try clear hb2); (try clear hk); (try clear hi)) | ((with_reducible refine gate_dst (N := 10) rfl ?_); refine box_event ?hg (N := 10) ?hd (cs := (⟨Arr.arL .i64 (Vector.replicate 256 0 : Vector Int 256)⟩ : Array Value)) (t := 70) ?hr ?_; (case hd => rfl); (case hg => rfl); (case hr => first | (go_simp; done) | (go_simp; rfl)); intro gb236 hg w35 hbox hb; have n0_ := Aside0.mk (below_step (by repeat (first | (with_reducible first | exact HB.out | apply below_alloc | apply pw_below_drewN | apply below_drew1) | exact HB.out)) hb); have n1_ := Aside0.mk (hbox); have n2_ := Aside0.mk ((by rw [hg]; exact (below_size (by repeat (first | (with_reducible first | exact HB.out | apply below_alloc | apply pw_below_drewN | apply below_drew1) | exact HB.out))) : w.heap.size ≤ gb236)); have n3_ := Aside0.mk ((by rw [hg]; exact (below_size (by repeat (first | (with_reducible first | exact HB.out | apply below_alloc | apply pw_below_drewN | apply below_drew1) | exact HB.out))) : w.heap.size ≤ gb236)); clear HB; have HB := n0_; have BK236 := n1_; have GW236 := n2_; have GE236 := n3_; clear n0_ n1_ n2_ n3_; clear hb hbox hg) | ((with_reducible refine gate_store (t := 70) (p := 10) rfl ?_); refine Arr.storeA ?hg (T := 70) (p := 10) (v := ?vo_w36) ?ho ?hn (g := gb236) (off := 0) ?hx (m := (Arr.arL .i64 t235)) ?hy (t := 70) (pre := []) (old := (Arr.arL .i64 (Vector.replicate 256 0 : Vector Int 256))) (show w35.heap[gb236]? = some (.cells (⟨Arr.arL .i64 (Vector.replicate 256 0 : Vector Int 256)⟩ : Array Value) 70 (0, 0)) from by (with_reducible repeat (first | refine blk_drewN ?_ _ | refine blk_drew ?_ | refine blk_alloc ?_ _)); exact BK236.out) rfl (by simp [Arr.arL_length]) (n := 256) (by kernel_rfl) (by simp [Arr.arL_length]) (Arr.ones_0 ) ?_; (case ho => rfl); (case hg => rfl); (case hn => rfl); (case hx => first | (go_simp; done) | rfl | (go_simp; rfl)); (case hy => first | (go_simp; done) | rfl | (go_simp; rfl)); intro w36 hbx hg hbe; replace hbx : w36.heap[gb236]? = some (.cells (⟨Arr.arL .i64 t235⟩ : Array Value) 70 (0, 0)) := hbx; have n0_ := Aside0.mk (hbx); have n1_ := Aside0.mk (hbe _ _ (by repeat (first | (with_reducible first | exact HB.out | apply below_alloc | apply pw_below_drewN | apply below_drew1 | refine below_set ?_ GE236.out) | exact HB.out)) GE236.out); clear BK236; clear HB; have BK236 := n0_; have HB := n1_; clear n0_ n1_; (try clear hbx hg hbe); have HI236 := Aside0.mk (show IsS70 w w36 gb236 t235 from ⟨BK236.out, GW236.out⟩); clear BK236) | ((with_reducible refine gate_callee (f := 70) rfl ?_); refine goesL_ (some 26) rfl rfl Try.func70 (by kernel_rfl) rfl #[.pointer (some ⟨gb236, 0, none⟩), .slice A2 l2.length c2] rfl (by (try simp only [List.map_toArray, List.map_cons, List.map_nil]); first | done | (go_simp; done) | rfl | (simp only [List.length_drop, List.length_take]; rfl)) ?_; (with_reducible refine (impl_sums_isCircle.calls k gb236 t235 _ _ l2 true t238 w _ ?side1 ?side2 ?side3 ?side4 ?side5 A8.out).mono ?_); (case side1 => repeat (first | (with_reducible first | exact HI236.out | apply IsS70.alloc | apply IsS70.drewN | apply IsS70.drew | apply IsS70.set_0) | exact HI236.out)); (case side2 => repeat (first | (with_reducible first | exact HB.out | apply below_alloc | apply pw_below_drewN | apply below_drew1 | refine below_set ?_ (IsS70.ge HI236.out)) | exact HB.out)); (case side3 => repeat (first | exact (Kd.C_below HR2.out HB.out) | (with_reducible refine Kd.C_alloc ?_ _) | (with_reducible refine Kd.C_drewN ?_ _) | (with_reducible refine Kd.C_drew ?_))); (case side4 => exact HC2.out); (case side5 => exact Kd.far_C 0 HR2.out (IsS70.ge HI236.out)); rintro e w37 ⟨rfl, hi, hb, hk⟩; refine ⟨_, rfl, ?_⟩; have n0_ := Aside0.mk (hb); have n1_ := Aside0.mk (hi); clear HB; clear HI236; have HB := n0_; have HI236 := n1_; clear n0_ n1_; (try clear hb); (try clear hb2); (try clear hk); (try clear hi)) | ((with_reducible refine Arr.gate_load (t := 70) (p := 10) rfl ?_); (try (refine gate_guard (by rfl) ?_; dsimp only)); refine Arr.loadA ?hg (T := 70) (p := 10) ?ho (g := gb236) (off := 0) ?hx (t := 70) (l := (Arr.arL .i64 t238)) (m := (Arr.arL .i64 t238)) (fr := (0, 0)) ((show IsS70 w w37 gb236 t238 from by repeat (first | (with_reducible first | exact HI236.out | apply IsS70.alloc | apply IsS70.drewN | apply IsS70.drew | apply IsS70.set_0) | exact HI236.out)).1) rfl Try.underlying70 rfl (n := 256) (by kernel_rfl) (by simp [Arr.arL_length]) ?_; (case hg => rfl); (case ho => rfl); (case hx => first | (go_simp; done) | rfl | (go_simp; rfl))) | ((with_reducible refine gate_callee (f := 62) rfl ?_); refine goesL_ (some 30) rfl rfl Try.func62 (by kernel_rfl) rfl #[.agg (⟨Arr.arL .i64 t238⟩ : Array Value)] rfl (by (try simp only [List.map_toArray, List.map_cons, List.map_nil]); first | done | (go_simp; done) | rfl | (simp only [List.length_drop, List.length_take]; rfl)) ?_; (with_reducible refine (impl_sums_debts.calls k t238 t239 t242 _ A11.out).mono ?_); rintro e w38 ⟨v240, rfl, ho0, hb⟩; refine ⟨_, rfl, ?_⟩; have n0_ := Aside0.mk (Kd.R_lower ho0 (below_size (by repeat (first | (with_reducible first | exact HB.out | apply below_alloc | apply pw_below_drewN | apply below_drew1 | refine below_set ?_ (IsS70.ge HI236.out)) | exact HB.out)))); have n1_ := Aside0.mk (IsS70.below (by repeat (first | (with_reducible first | exact HI236.out | apply IsS70.alloc | apply IsS70.drewN | apply IsS70.drew | apply IsS70.set_0) | exact HI236.out)) hb); have n2_ := Aside0.mk (below_step (by repeat (first | (with_reducible first | exact HB.out | apply below_alloc | apply pw_below_drewN | apply below_drew1 | refine below_set ?_ (IsS70.ge HI236.out)) | exact HB.out)) hb); clear HI236; clear HB; have HO241 := n0_; have HI236 := n1_; have HB := n2_; clear n0_ n1_ n2_; (try clear hb); (try clear hb2); (try clear hk); (try clear hi); (try clear ho0)))
        go_ret3
        exact ⟨_, by first | rfl | (simp [errW_none, errW_some] <;> rfl) | (simp [*, errW_none, errW_some] <;> rfl), by first | exact Kd.R_nil _ _ _ _ _ | exact Kd.N_nil _ _ _ _ _ | exact Kd.V_nil _ _ _ _ _ | exact Kd.Q_nil _ _ _ _ _ | exact Kd.S_nil _ _ _ _ _, by repeat (first | (with_reducible first | exact HB.out | apply below_alloc | apply pw_below_drewN | apply below_drew1 | refine below_set ?_ (IsS70.ge HI236.out)) | exact HB.out)⟩
    · replace c9 := Bool.eq_false_iff.mpr c9
      subst c9
      have H1 : (some (([] : List (S65)), 0, 4)) = some (r1, r2, r3) := by rw [if_neg (show ¬ (false = true) by decide)] at H; exact H
      clear H
      have H := H1
      clear H1
      simp only [Option.some.injEq, Prod.mk.injEq] at H
      obtain ⟨rfl, rfl, rfl⟩ := H
      go_enter Try.func33, Try.ntmps33
      go_wp2_with (first | ((with_reducible refine gate_callee (f := 56) rfl ?_); refine goesL_ (some 19) rfl rfl Try.func56 (by kernel_rfl) rfl #[.int .i64 a0, .slice A1 l1.length c1, .slice A2 l2.length c2] rfl (by (try simp only [List.map_toArray, List.map_cons, List.map_nil]); first | done | (go_simp; done) | rfl | (simp only [List.length_drop, List.length_take]; rfl)) ?_; (with_reducible refine (impl_debtsCode.calls k a0 _ _ l1 _ _ l2 t234 _ ?side1 ?side2 ?side3 ?side4 A4.out).mono ?_); (case side1 => repeat (first | exact HR1.out | (with_reducible refine Kd.C_alloc ?_ _) | (with_reducible refine Kd.C_drewN ?_ _) | (with_reducible refine Kd.C_drew ?_))); (case side2 => exact HC1.out); (case side3 => repeat (first | exact HR2.out | (with_reducible refine Kd.C_alloc ?_ _) | (with_reducible refine Kd.C_drewN ?_ _) | (with_reducible refine Kd.C_drew ?_))); (case side4 => exact HC2.out); rintro e w39 ⟨rfl, hb⟩; refine ⟨_, rfl, ?_⟩; have n0_ := Aside0.mk (below_step (by repeat (first | (with_reducible first | exact HB.out | apply below_alloc | apply pw_below_drewN | apply below_drew1) | exact HB.out)) hb); clear HB; have HB := n0_; clear n0_; (try clear hb); (try clear hb2); (try clear hk); (try clear hi)) | ((with_reducible refine gate_callee (f := 57) rfl ?_); refine goesL_ (some 24) rfl rfl Try.func57 (by kernel_rfl) rfl #[.slice A1 l1.length c1] rfl (by (try simp only [List.map_toArray, List.map_cons, List.map_nil]); first | done | (go_simp; done) | rfl | (simp only [List.length_drop, List.length_take]; rfl)) ?_; (with_reducible refine (impl_sumsOf.calls k _ _ l1 t235 _ ?side1 ?side2 A6.out).mono ?_); (case side1 => repeat (first | exact (Kd.C_below HR1.out HB.out) | (with_reducible refine Kd.C_alloc ?_ _) | (with_reducible refine Kd.C_drewN ?_ _) | (with_reducible refine Kd.C_drew ?_))); (case side2 => exact HC1.out); rintro e w40 ⟨rfl, hb⟩; refine ⟨_, rfl, ?_⟩; have n0_ := Aside0.mk (below_step (by repeat (first | (with_reducible first | exact HB.out | apply below_alloc | apply pw_below_drewN | apply below_drew1) | exact HB.out)) hb); clear HB; have HB := n0_; clear n0_; (try clear hb); (try clear hb2); (try clear hk); (try clear hi)) | ((with_reducible refine gate_dst (N := 10) rfl ?_); refine box_event ?hg (N := 10) ?hd (cs := (⟨Arr.arL .i64 (Vector.replicate 256 0 : Vector Int 256)⟩ : Array Value)) (t := 70) ?hr ?_; (case hd => rfl); (case hg => rfl); (case hr => first | (go_simp; done) | (go_simp; rfl)); intro gb236 hg w41 hbox hb; have n0_ := Aside0.mk (below_step (by repeat (first | (with_reducible first | exact HB.out | apply below_alloc | apply pw_below_drewN | apply below_drew1) | exact HB.out)) hb); have n1_ := Aside0.mk (hbox); have n2_ := Aside0.mk ((by rw [hg]; exact (below_size (by repeat (first | (with_reducible first | exact HB.out | apply below_alloc | apply pw_below_drewN | apply below_drew1) | exact HB.out))) : w.heap.size ≤ gb236)); have n3_ := Aside0.mk ((by rw [hg]; exact (below_size (by repeat (first | (with_reducible first | exact HB.out | apply below_alloc | apply pw_below_drewN | apply below_drew1) | exact HB.out))) : w.heap.size ≤ gb236)); clear HB; have HB := n0_; have BK236 := n1_; have GW236 := n2_; have GE236 := n3_; clear n0_ n1_ n2_ n3_; clear hb hbox hg) | ((with_reducible refine gate_store (t := 70) (p := 10) rfl ?_); refine Arr.storeA ?hg (T := 70) (p := 10) (v := ?vo_w42) ?ho ?hn (g := gb236) (off := 0) ?hx (m := (Arr.arL .i64 t235)) ?hy (t := 70) (pre := []) (old := (Arr.arL .i64 (Vector.replicate 256 0 : Vector Int 256))) (show w41.heap[gb236]? = some (.cells (⟨Arr.arL .i64 (Vector.replicate 256 0 : Vector Int 256)⟩ : Array Value) 70 (0, 0)) from by (with_reducible repeat (first | refine blk_drewN ?_ _ | refine blk_drew ?_ | refine blk_alloc ?_ _)); exact BK236.out) rfl (by simp [Arr.arL_length]) (n := 256) (by kernel_rfl) (by simp [Arr.arL_length]) (Arr.ones_0 ) ?_; (case ho => rfl); (case hg => rfl); (case hn => rfl); (case hx => first | (go_simp; done) | rfl | (go_simp; rfl)); (case hy => first | (go_simp; done) | rfl | (go_simp; rfl)); intro w42 hbx hg hbe; replace hbx : w42.heap[gb236]? = some (.cells (⟨Arr.arL .i64 t235⟩ : Array Value) 70 (0, 0)) := hbx; have n0_ := Aside0.mk (hbx); have n1_ := Aside0.mk (hbe _ _ (by repeat (first | (with_reducible first | exact HB.out | apply below_alloc | apply pw_below_drewN | apply below_drew1 | refine below_set ?_ GE236.out) | exact HB.out)) GE236.out); clear BK236; clear HB; have BK236 := n0_; have HB := n1_; clear n0_ n1_; (try clear hbx hg hbe); have HI236 := Aside0.mk (show IsS70 w w42 gb236 t235 from ⟨BK236.out, GW236.out⟩); clear BK236) | ((with_reducible refine gate_callee (f := 70) rfl ?_); refine goesL_ (some 26) rfl rfl Try.func70 (by kernel_rfl) rfl #[.pointer (some ⟨gb236, 0, none⟩), .slice A2 l2.length c2] rfl (by (try simp only [List.map_toArray, List.map_cons, List.map_nil]); first | done | (go_simp; done) | rfl | (simp only [List.length_drop, List.length_take]; rfl)) ?_; (with_reducible refine (impl_sums_isCircle.calls k gb236 t235 _ _ l2 false t238 w _ ?side1 ?side2 ?side3 ?side4 ?side5 A8.out).mono ?_); (case side1 => repeat (first | (with_reducible first | exact HI236.out | apply IsS70.alloc | apply IsS70.drewN | apply IsS70.drew | apply IsS70.set_0) | exact HI236.out)); (case side2 => repeat (first | (with_reducible first | exact HB.out | apply below_alloc | apply pw_below_drewN | apply below_drew1 | refine below_set ?_ (IsS70.ge HI236.out)) | exact HB.out)); (case side3 => repeat (first | exact (Kd.C_below HR2.out HB.out) | (with_reducible refine Kd.C_alloc ?_ _) | (with_reducible refine Kd.C_drewN ?_ _) | (with_reducible refine Kd.C_drew ?_))); (case side4 => exact HC2.out); (case side5 => exact Kd.far_C 0 HR2.out (IsS70.ge HI236.out)); rintro e w43 ⟨rfl, hi, hb, hk⟩; refine ⟨_, rfl, ?_⟩; have n0_ := Aside0.mk (hb); have n1_ := Aside0.mk (hi); clear HB; clear HI236; have HB := n0_; have HI236 := n1_; clear n0_ n1_; (try clear hb); (try clear hb2); (try clear hk); (try clear hi)))
      go_ret3
      exact ⟨_, by first | rfl | (simp [errW_none, errW_some] <;> rfl) | (simp [*, errW_none, errW_some] <;> rfl), by first | exact Kd.R_nil _ _ _ _ _ | exact Kd.N_nil _ _ _ _ _ | exact Kd.V_nil _ _ _ _ _ | exact Kd.Q_nil _ _ _ _ _ | exact Kd.S_nil _ _ _ _ _, by repeat (first | (with_reducible first | exact HB.out | apply below_alloc | apply pw_below_drewN | apply below_drew1 | refine below_set ?_ (IsS70.ge HI236.out)) | exact HB.out)⟩
  · rw [if_neg c5] at H
    have c5b0 : (t234 == 0) = false := beq_eq_false_iff_ne.mpr c5
    have c5b1 : (t234 != 0) = true := bne_iff_ne.mpr c5
    simp only [Option.some.injEq, Prod.mk.injEq] at H
    obtain ⟨rfl, rfl, rfl⟩ := H
    go_enter Try.func33, Try.ntmps33
    go_wp2_with (first | ((with_reducible refine gate_callee (f := 56) rfl ?_); refine goesL_ (some 19) rfl rfl Try.func56 (by kernel_rfl) rfl #[.int .i64 a0, .slice A1 l1.length c1, .slice A2 l2.length c2] rfl (by (try simp only [List.map_toArray, List.map_cons, List.map_nil]); first | done | (go_simp; done) | rfl | (simp only [List.length_drop, List.length_take]; rfl)) ?_; (with_reducible refine (impl_debtsCode.calls k a0 _ _ l1 _ _ l2 t234 _ ?side1 ?side2 ?side3 ?side4 A4.out).mono ?_); (case side1 => repeat (first | exact HR1.out | (with_reducible refine Kd.C_alloc ?_ _) | (with_reducible refine Kd.C_drewN ?_ _) | (with_reducible refine Kd.C_drew ?_))); (case side2 => exact HC1.out); (case side3 => repeat (first | exact HR2.out | (with_reducible refine Kd.C_alloc ?_ _) | (with_reducible refine Kd.C_drewN ?_ _) | (with_reducible refine Kd.C_drew ?_))); (case side4 => exact HC2.out); rintro e w44 ⟨rfl, hb⟩; refine ⟨_, rfl, ?_⟩; have n0_ := Aside0.mk (below_step (by repeat (first | (with_reducible first | exact HB.out | apply below_alloc | apply pw_below_drewN | apply below_drew1) | exact HB.out)) hb); clear HB; have HB := n0_; clear n0_; (try clear hb); (try clear hb2); (try clear hk); (try clear hi)))
    go_ret3
    exact ⟨_, by first | rfl | (simp [errW_none, errW_some] <;> rfl) | (simp [*, errW_none, errW_some] <;> rfl), by first | exact Kd.R_nil _ _ _ _ _ | exact Kd.N_nil _ _ _ _ _ | exact Kd.V_nil _ _ _ _ _ | exact Kd.Q_nil _ _ _ _ _ | exact Kd.S_nil _ _ _ _ _, by repeat (first | (with_reducible first | exact HB.out | apply below_alloc | apply pw_below_drewN | apply below_drew1) | exact HB.out)⟩

/-! ### laws_FnExactCancelCircle: function 7 -/
mutual
def laws_FnExactCancelCircle.j0 : Nat → Int → List (S67) → List Int → List (S65) → Int → Int → List (S65) → List Int → List (S65) → Int → Int → Bool → Option (Bool)
  | 0, _, _, _, _, _, _, _, _, _, _, _, _ => none
  | k + 1, x0, x1, x2, x8, x9, x10, x11, x12, x13, x14, x15, x65 => if x65 = true then (some false) else ((laws_toDebtS.f k x1).bind fun t273 => ((laws_eqDebtS.f k x11 t273).bind fun t276 => (if t276 = true then ((laws_toInt64S.f k x2).bind fun t277 => ((laws_eqInt64S.f k x12 t277).bind fun t280 => (if t280 = true then ((laws_markDebtS.f k x11 1).bind fun bt281 => ((laws_markInt64S.f k x12 bt281.1).bind fun bt283 => (if bt283.1 < 0 then (laws_FnExactCancelCircle.j1 k x0 x1 x2 x8 x9 x10 x13 true) else ((laws_eqDebtS.f k x13 x8).bind fun t285 => (if t285 = true then (if x14 = x9 then (laws_FnExactCancelCircle.j1 k x0 x1 x2 x8 x9 x10 x13 (x15 != x10)) else (laws_FnExactCancelCircle.j1 k x0 x1 x2 x8 x9 x10 x13 true)) else (laws_FnExactCancelCircle.j1 k x0 x1 x2 x8 x9 x10 x13 true)))))) else (some false)))) else (some false))))
def laws_FnExactCancelCircle.j1 : Nat → Int → List (S67) → List Int → List (S65) → Int → Int → List (S65) → Bool → Option (Bool)
  | 0, _, _, _, _, _, _, _, _ => none
  | k + 1, x0, x1, x2, x8, x9, x10, x13, x99 => if x99 = true then (some false) else ((laws_markDebtS.f k x13 1).bind fun bt286 => ((laws_heldDebtS.f k bt286.2 1).bind fun t288 => (if t288 < 0 then (some false) else (if t288 = bt286.1 then ((laws_toDebtS.f k x1).bind fun t289 => ((laws_toInt64S.f k x2).bind fun t292 => ((impl_CancelCircle.f k x0 t289 t292).bind fun bt295 => ((laws_eqDebtS.f k bt295.1 x8).bind fun t300 => (if t300 = true then (if bt295.2.1 = x9 then (laws_FnExactCancelCircle.j2 k bt286.2 bt286.1 (bt295.2.2 != x10)) else (laws_FnExactCancelCircle.j2 k bt286.2 bt286.1 true)) else (laws_FnExactCancelCircle.j2 k bt286.2 bt286.1 true)))))) else (some false)))))
def laws_FnExactCancelCircle.j2 : Nat → List (S65) → Int → Bool → Option (Bool)
  | 0, _, _, _ => none
  | k + 1, x13, x17, x134 => if x134 = true then (some false) else ((laws_heldDebtS.f k x13 1).bind fun t301 => (if t301 < 0 then (some false) else (if t301 = x17 then (some true) else (some false))))
end
def laws_FnExactCancelCircle.f (k : Nat) (a0 : Int) (l1 : List (S67)) (l2 : List Int) : Option (Bool) := if (l2.length : Int) > 1048576 then (some true) else ((laws_szDebtS.f l1 1048576).bind fun t249 => (if t249 < 0 then (some true) else ((laws_toDebtS.f k l1).bind fun t250 => ((laws_toInt64S.f k l2).bind fun t253 => ((spec_CancelCircle.f k a0 t250 t253).bind fun bt256 => ((laws_toDebtS.f k l1).bind fun t261 => ((laws_toInt64S.f k l2).bind fun t264 => ((impl_CancelCircle.f k a0 t261 t264).bind fun bt267 => ((laws_eqDebtS.f k bt267.1 bt256.1).bind fun t272 => (if t272 = true then (if bt267.2.1 = bt256.2.1 then (laws_FnExactCancelCircle.j0 k a0 l1 l2 bt256.1 bt256.2.1 bt256.2.2 t261 t264 bt267.1 bt267.2.1 bt267.2.2 (bt267.2.2 != bt256.2.2)) else (laws_FnExactCancelCircle.j0 k a0 l1 l2 bt256.1 bt256.2.1 bt256.2.2 t261 t264 bt267.1 bt267.2.1 bt267.2.2 true)) else (laws_FnExactCancelCircle.j0 k a0 l1 l2 bt256.1 bt256.2.1 bt256.2.2 t261 t264 bt267.1 bt267.2.1 bt267.2.2 true)))))))))))
theorem laws_FnExactCancelCircle.mono_l : ∀ k, (∀ y0 y1 y2 y3 y4 y5 y6 y7 y8 y9 y10 y11, LeO (laws_FnExactCancelCircle.j0 k y0 y1 y2 y3 y4 y5 y6 y7 y8 y9 y10 y11) (laws_FnExactCancelCircle.j0 (k + 1) y0 y1 y2 y3 y4 y5 y6 y7 y8 y9 y10 y11)) ∧ (∀ y0 y1 y2 y3 y4 y5 y6 y7, LeO (laws_FnExactCancelCircle.j1 k y0 y1 y2 y3 y4 y5 y6 y7) (laws_FnExactCancelCircle.j1 (k + 1) y0 y1 y2 y3 y4 y5 y6 y7)) ∧ (∀ y0 y1 y2, LeO (laws_FnExactCancelCircle.j2 k y0 y1 y2) (laws_FnExactCancelCircle.j2 (k + 1) y0 y1 y2))
  | 0 => ⟨fun _ _ _ _ _ _ _ _ _ _ _ _ r h => by simp [laws_FnExactCancelCircle.j0] at h, fun _ _ _ _ _ _ _ _ r h => by simp [laws_FnExactCancelCircle.j1] at h, fun _ _ _ r h => by simp [laws_FnExactCancelCircle.j2] at h⟩
  | k + 1 => by
    obtain ⟨ih0, ih1, ih2⟩ := laws_FnExactCancelCircle.mono_l k
    refine ⟨?_, ?_, ?_⟩
    · intro y0 y1 y2 y3 y4 y5 y6 y7 y8 y9 y10 y11
      unfold laws_FnExactCancelCircle.j0
      repeat' first
      | (with_reducible exact ih0 _ _ _ _ _ _ _ _ _ _ _ _)
      | (with_reducible exact ih1 _ _ _ _ _ _ _ _)
      | (with_reducible exact ih2 _ _ _)
      | (with_reducible exact impl_CancelCircle.mono _ _ _ _)
      | (with_reducible exact laws_eqDebtS.mono _ _ _)
      | (with_reducible exact laws_eqInt64S.mono _ _ _)
      | (with_reducible exact laws_heldDebtS.mono _ _ _)
      | (with_reducible exact laws_markDebtS.mono _ _ _)
      | (with_reducible exact laws_markInt64S.mono _ _ _)
      | (with_reducible exact laws_toDebtS.mono _ _)
      | (with_reducible exact laws_toInt64S.mono _ _)
      | (with_reducible exact spec_CancelCircle.mono _ _ _ _)
      | (with_reducible exact LeO.refl _)
      | (with_reducible exact LeO.none _)
      | (with_reducible refine LeO.ite ?_ ?_)
      | (with_reducible refine LeO.bind ?_ (fun _ => ?_))
      | exact ih0 _ _ _ _ _ _ _ _ _ _ _ _
      | exact ih1 _ _ _ _ _ _ _ _
      | exact ih2 _ _ _
      | exact impl_CancelCircle.mono _ _ _ _
      | exact laws_eqDebtS.mono _ _ _
      | exact laws_eqInt64S.mono _ _ _
      | exact laws_heldDebtS.mono _ _ _
      | exact laws_markDebtS.mono _ _ _
      | exact laws_markInt64S.mono _ _ _
      | exact laws_toDebtS.mono _ _
      | exact laws_toInt64S.mono _ _
      | exact spec_CancelCircle.mono _ _ _ _
      | exact LeO.none _
      | refine LeO.ite ?_ ?_
      | refine LeO.bind ?_ (fun _ => ?_)
    · intro y0 y1 y2 y3 y4 y5 y6 y7
      unfold laws_FnExactCancelCircle.j1
      repeat' first
      | (with_reducible exact ih0 _ _ _ _ _ _ _ _ _ _ _ _)
      | (with_reducible exact ih1 _ _ _ _ _ _ _ _)
      | (with_reducible exact ih2 _ _ _)
      | (with_reducible exact impl_CancelCircle.mono _ _ _ _)
      | (with_reducible exact laws_eqDebtS.mono _ _ _)
      | (with_reducible exact laws_eqInt64S.mono _ _ _)
      | (with_reducible exact laws_heldDebtS.mono _ _ _)
      | (with_reducible exact laws_markDebtS.mono _ _ _)
      | (with_reducible exact laws_markInt64S.mono _ _ _)
      | (with_reducible exact laws_toDebtS.mono _ _)
      | (with_reducible exact laws_toInt64S.mono _ _)
      | (with_reducible exact spec_CancelCircle.mono _ _ _ _)
      | (with_reducible exact LeO.refl _)
      | (with_reducible exact LeO.none _)
      | (with_reducible refine LeO.ite ?_ ?_)
      | (with_reducible refine LeO.bind ?_ (fun _ => ?_))
      | exact ih0 _ _ _ _ _ _ _ _ _ _ _ _
      | exact ih1 _ _ _ _ _ _ _ _
      | exact ih2 _ _ _
      | exact impl_CancelCircle.mono _ _ _ _
      | exact laws_eqDebtS.mono _ _ _
      | exact laws_eqInt64S.mono _ _ _
      | exact laws_heldDebtS.mono _ _ _
      | exact laws_markDebtS.mono _ _ _
      | exact laws_markInt64S.mono _ _ _
      | exact laws_toDebtS.mono _ _
      | exact laws_toInt64S.mono _ _
      | exact spec_CancelCircle.mono _ _ _ _
      | exact LeO.none _
      | refine LeO.ite ?_ ?_
      | refine LeO.bind ?_ (fun _ => ?_)
    · intro y0 y1 y2
      unfold laws_FnExactCancelCircle.j2
      repeat' first
      | (with_reducible exact ih0 _ _ _ _ _ _ _ _ _ _ _ _)
      | (with_reducible exact ih1 _ _ _ _ _ _ _ _)
      | (with_reducible exact ih2 _ _ _)
      | (with_reducible exact impl_CancelCircle.mono _ _ _ _)
      | (with_reducible exact laws_eqDebtS.mono _ _ _)
      | (with_reducible exact laws_eqInt64S.mono _ _ _)
      | (with_reducible exact laws_heldDebtS.mono _ _ _)
      | (with_reducible exact laws_markDebtS.mono _ _ _)
      | (with_reducible exact laws_markInt64S.mono _ _ _)
      | (with_reducible exact laws_toDebtS.mono _ _)
      | (with_reducible exact laws_toInt64S.mono _ _)
      | (with_reducible exact spec_CancelCircle.mono _ _ _ _)
      | (with_reducible exact LeO.refl _)
      | (with_reducible exact LeO.none _)
      | (with_reducible refine LeO.ite ?_ ?_)
      | (with_reducible refine LeO.bind ?_ (fun _ => ?_))
      | exact ih0 _ _ _ _ _ _ _ _ _ _ _ _
      | exact ih1 _ _ _ _ _ _ _ _
      | exact ih2 _ _ _
      | exact impl_CancelCircle.mono _ _ _ _
      | exact laws_eqDebtS.mono _ _ _
      | exact laws_eqInt64S.mono _ _ _
      | exact laws_heldDebtS.mono _ _ _
      | exact laws_markDebtS.mono _ _ _
      | exact laws_markInt64S.mono _ _ _
      | exact laws_toDebtS.mono _ _
      | exact laws_toInt64S.mono _ _
      | exact spec_CancelCircle.mono _ _ _ _
      | exact LeO.none _
      | refine LeO.ite ?_ ?_
      | refine LeO.bind ?_ (fun _ => ?_)
theorem laws_FnExactCancelCircle.mono : ∀ a0 a1 a2 k, LeO (laws_FnExactCancelCircle.f k a0 a1 a2) (laws_FnExactCancelCircle.f (k + 1) a0 a1 a2) := by
  intro a0 a1 a2 k
  obtain ⟨ih0, ih1, ih2⟩ := laws_FnExactCancelCircle.mono_l k
  unfold laws_FnExactCancelCircle.f
  repeat' first
      | (with_reducible exact ih0 _ _ _ _ _ _ _ _ _ _ _ _)
      | (with_reducible exact ih1 _ _ _ _ _ _ _ _)
      | (with_reducible exact ih2 _ _ _)
      | (with_reducible exact impl_CancelCircle.mono _ _ _ _)
      | (with_reducible exact laws_eqDebtS.mono _ _ _)
      | (with_reducible exact laws_eqInt64S.mono _ _ _)
      | (with_reducible exact laws_heldDebtS.mono _ _ _)
      | (with_reducible exact laws_markDebtS.mono _ _ _)
      | (with_reducible exact laws_markInt64S.mono _ _ _)
      | (with_reducible exact laws_toDebtS.mono _ _)
      | (with_reducible exact laws_toInt64S.mono _ _)
      | (with_reducible exact spec_CancelCircle.mono _ _ _ _)
      | (with_reducible exact LeO.refl _)
      | (with_reducible exact LeO.none _)
      | (with_reducible refine LeO.ite ?_ ?_)
      | (with_reducible refine LeO.bind ?_ (fun _ => ?_))
      | exact ih0 _ _ _ _ _ _ _ _ _ _ _ _
      | exact ih1 _ _ _ _ _ _ _ _
      | exact ih2 _ _ _
      | exact impl_CancelCircle.mono _ _ _ _
      | exact laws_eqDebtS.mono _ _ _
      | exact laws_eqInt64S.mono _ _ _
      | exact laws_heldDebtS.mono _ _ _
      | exact laws_markDebtS.mono _ _ _
      | exact laws_markInt64S.mono _ _ _
      | exact laws_toDebtS.mono _ _
      | exact laws_toInt64S.mono _ _
      | exact spec_CancelCircle.mono _ _ _ _
      | exact LeO.none _
      | refine LeO.ite ?_ ?_
      | refine LeO.bind ?_ (fun _ => ?_)
set_option maxHeartbeats 8000000 in
set_option maxRecDepth 100000 in
theorem laws_FnExactCancelCircle.calls (k : Nat) (a0 : Int) (A1 : Option Addr) (c1 : Nat) (l1 : List (S67)) (A2 : Option Addr) (c2 : Nat) (l2 : List Int) (r : Bool) (w : World) (hr1 : Kd.C k67 w A1 l1.length l1) (hc1 : l1.length ≤ c1) (hr2 : Kd.C (Kd.int .i64) w A2 l2.length l2) (hc2 : l2.length ≤ c2) (h : laws_FnExactCancelCircle.f k a0 l1 l2 = some r) (ht : r = true) :
    Calls Try.prog 7 #[.int .i64 a0, .slice A1 l1.length c1, .slice A2 l2.length c2] w fun e w' => e = .returned (.bool r) ∧ Below w.heap.size w w' := by
  have HR1 := Aside0.mk hr1
  have HC1 := Aside0.mk hc1
  clear hr1 hc1
  have HR2 := Aside0.mk hr2
  have HC2 := Aside0.mk hc2
  clear hr2 hc2
  have HB := Aside0.mk (Below.refl w.heap.size w)
  have H : (if (l2.length : Int) > 1048576 then (some true) else ((laws_szDebtS.f l1 1048576).bind fun t249 => (if t249 < 0 then (some true) else ((laws_toDebtS.f k l1).bind fun t250 => ((laws_toInt64S.f k l2).bind fun t253 => ((spec_CancelCircle.f k a0 t250 t253).bind fun bt256 => ((laws_toDebtS.f k l1).bind fun t261 => ((laws_toInt64S.f k l2).bind fun t264 => ((impl_CancelCircle.f k a0 t261 t264).bind fun bt267 => ((laws_eqDebtS.f k bt267.1 bt256.1).bind fun t272 => (if t272 = true then (if bt267.2.1 = bt256.2.1 then (laws_FnExactCancelCircle.j0 k a0 l1 l2 bt256.1 bt256.2.1 bt256.2.2 t261 t264 bt267.1 bt267.2.1 bt267.2.2 (bt267.2.2 != bt256.2.2)) else (laws_FnExactCancelCircle.j0 k a0 l1 l2 bt256.1 bt256.2.1 bt256.2.2 t261 t264 bt267.1 bt267.2.1 bt267.2.2 true)) else (laws_FnExactCancelCircle.j0 k a0 l1 l2 bt256.1 bt256.2.1 bt256.2.2 t261 t264 bt267.1 bt267.2.1 bt267.2.2 true)))))))))))) = some r := h
  clear h
  by_cases c4 : (l2.length : Int) > 1048576
  · rw [if_pos c4] at H
    have c4b0 : decide (1048576 < (l2.length : Int)) = true := decide_eq_true c4
    have c4b1 : decide (1048576 < l2.length) = true := decide_eq_true (by omega)
    clear c4
    obtain rfl := Option.some.inj H
    go_enter Try.func7, Try.ntmps7
    go_wp2
    go_ret
    exact ⟨by first | rfl | (simp [errW_none, errW_some] <;> rfl) | (simp [*, errW_none, errW_some] <;> rfl), by repeat (first | (with_reducible first | exact HB.out | apply below_alloc | apply pw_below_drewN | apply below_drew1) | exact HB.out)⟩
  · rw [if_neg c4] at H
    have c4b0 : decide (1048576 < (l2.length : Int)) = false := decide_eq_false c4
    have c4b1 : decide (1048576 < l2.length) = false := decide_eq_false (by omega)
    clear c4
    replace H := Option.bind_eq_some_iff.mp H
    obtain ⟨t249, A50, H⟩ := H
    replace H : (if t249 < 0 then (some true) else ((laws_toDebtS.f k l1).bind fun t250 => ((laws_toInt64S.f k l2).bind fun t253 => ((spec_CancelCircle.f k a0 t250 t253).bind fun bt256 => ((laws_toDebtS.f k l1).bind fun t261 => ((laws_toInt64S.f k l2).bind fun t264 => ((impl_CancelCircle.f k a0 t261 t264).bind fun bt267 => ((laws_eqDebtS.f k bt267.1 bt256.1).bind fun t272 => (if t272 = true then (if bt267.2.1 = bt256.2.1 then (laws_FnExactCancelCircle.j0 k a0 l1 l2 bt256.1 bt256.2.1 bt256.2.2 t261 t264 bt267.1 bt267.2.1 bt267.2.2 (bt267.2.2 != bt256.2.2)) else (laws_FnExactCancelCircle.j0 k a0 l1 l2 bt256.1 bt256.2.1 bt256.2.2 t261 t264 bt267.1 bt267.2.1 bt267.2.2 true)) else (laws_FnExactCancelCircle.j0 k a0 l1 l2 bt256.1 bt256.2.1 bt256.2.2 t261 t264 bt267.1 bt267.2.1 bt267.2.2 true)))))))))) = some r := H
    have A5 := Aside0.mk A50
    clear A50
    by_cases c6 : t249 < 0
    · rw [if_pos c6] at H
      have c6b0 : decide (t249 < 0) = true := decide_eq_true c6
      clear c6
      obtain rfl := Option.some.inj H
      go_enter Try.func7, Try.ntmps7
      go_wp2_with (first | ((with_reducible refine gate_callee (f := 15) rfl ?_); refine goesL_ (some 27) rfl rfl Try.func15 (by kernel_rfl) rfl #[.slice A1 l1.length c1, .int .i64 1048576] rfl (by (try simp only [List.map_toArray, List.map_cons, List.map_nil]); first | done | (go_simp; done) | rfl | (simp only [List.length_drop, List.length_take]; rfl)) ?_; (with_reducible refine (laws_szDebtS.calls _ _ l1 1048576 t249 _ ?side1 ?side2 A5.out).mono ?_); (case side1 => repeat (first | exact HR1.out | (with_reducible refine Kd.C_alloc ?_ _) | (with_reducible refine Kd.C_drewN ?_ _) | (with_reducible refine Kd.C_drew ?_))); (case side2 => exact HC1.out); rintro e w' ⟨rfl, ⟨nd, rfl⟩⟩; refine ⟨_, rfl, ?_⟩))
      go_ret
      exact ⟨by first | rfl | (simp [errW_none, errW_some] <;> rfl) | (simp [*, errW_none, errW_some] <;> rfl), by repeat (first | (with_reducible first | exact HB.out | apply below_alloc | apply pw_below_drewN | apply below_drew1) | exact HB.out)⟩
    · rw [if_neg c6] at H
      have c6b0 : decide (t249 < 0) = false := decide_eq_false c6
      clear c6
      replace H := Option.bind_eq_some_iff.mp H
      obtain ⟨t250, A70, H⟩ := H
      replace H : ((laws_toInt64S.f k l2).bind fun t253 => ((spec_CancelCircle.f k a0 t250 t253).bind fun bt256 => ((laws_toDebtS.f k l1).bind fun t261 => ((laws_toInt64S.f k l2).bind fun t264 => ((impl_CancelCircle.f k a0 t261 t264).bind fun bt267 => ((laws_eqDebtS.f k bt267.1 bt256.1).bind fun t272 => (if t272 = true then (if bt267.2.1 = bt256.2.1 then (laws_FnExactCancelCircle.j0 k a0 l1 l2 bt256.1 bt256.2.1 bt256.2.2 t261 t264 bt267.1 bt267.2.1 bt267.2.2 (bt267.2.2 != bt256.2.2)) else (laws_FnExactCancelCircle.j0 k a0 l1 l2 bt256.1 bt256.2.1 bt256.2.2 t261 t264 bt267.1 bt267.2.1 bt267.2.2 true)) else (laws_FnExactCancelCircle.j0 k a0 l1 l2 bt256.1 bt256.2.1 bt256.2.2 t261 t264 bt267.1 bt267.2.1 bt267.2.2 true)))))))) = some r := H
      have A7 := Aside0.mk A70
      clear A70
      replace H := Option.bind_eq_some_iff.mp H
      obtain ⟨t253, A80, H⟩ := H
      replace H : ((spec_CancelCircle.f k a0 t250 t253).bind fun bt256 => ((laws_toDebtS.f k l1).bind fun t261 => ((laws_toInt64S.f k l2).bind fun t264 => ((impl_CancelCircle.f k a0 t261 t264).bind fun bt267 => ((laws_eqDebtS.f k bt267.1 bt256.1).bind fun t272 => (if t272 = true then (if bt267.2.1 = bt256.2.1 then (laws_FnExactCancelCircle.j0 k a0 l1 l2 bt256.1 bt256.2.1 bt256.2.2 t261 t264 bt267.1 bt267.2.1 bt267.2.2 (bt267.2.2 != bt256.2.2)) else (laws_FnExactCancelCircle.j0 k a0 l1 l2 bt256.1 bt256.2.1 bt256.2.2 t261 t264 bt267.1 bt267.2.1 bt267.2.2 true)) else (laws_FnExactCancelCircle.j0 k a0 l1 l2 bt256.1 bt256.2.1 bt256.2.2 t261 t264 bt267.1 bt267.2.1 bt267.2.2 true))))))) = some r := H
      have A8 := Aside0.mk A80
      clear A80
      replace H := Option.bind_eq_some_iff.mp H
      obtain ⟨⟨t256, t257, t258⟩, A90, H⟩ := H
      replace H : ((laws_toDebtS.f k l1).bind fun t261 => ((laws_toInt64S.f k l2).bind fun t264 => ((impl_CancelCircle.f k a0 t261 t264).bind fun bt267 => ((laws_eqDebtS.f k bt267.1 t256).bind fun t272 => (if t272 = true then (if bt267.2.1 = t257 then (laws_FnExactCancelCircle.j0 k a0 l1 l2 t256 t257 t258 t261 t264 bt267.1 bt267.2.1 bt267.2.2 (bt267.2.2 != t258)) else (laws_FnExactCancelCircle.j0 k a0 l1 l2 t256 t257 t258 t261 t264 bt267.1 bt267.2.1 bt267.2.2 true)) else (laws_FnExactCancelCircle.j0 k a0 l1 l2 t256 t257 t258 t261 t264 bt267.1 bt267.2.1 bt267.2.2 true)))))) = some r := H
      have A9 := Aside0.mk A90
      clear A90
      replace H := Option.bind_eq_some_iff.mp H
      obtain ⟨t261, A100, H⟩ := H
      replace H : ((laws_toInt64S.f k l2).bind fun t264 => ((impl_CancelCircle.f k a0 t261 t264).bind fun bt267 => ((laws_eqDebtS.f k bt267.1 t256).bind fun t272 => (if t272 = true then (if bt267.2.1 = t257 then (laws_FnExactCancelCircle.j0 k a0 l1 l2 t256 t257 t258 t261 t264 bt267.1 bt267.2.1 bt267.2.2 (bt267.2.2 != t258)) else (laws_FnExactCancelCircle.j0 k a0 l1 l2 t256 t257 t258 t261 t264 bt267.1 bt267.2.1 bt267.2.2 true)) else (laws_FnExactCancelCircle.j0 k a0 l1 l2 t256 t257 t258 t261 t264 bt267.1 bt267.2.1 bt267.2.2 true))))) = some r := H
      have A10 := Aside0.mk A100
      clear A100
      replace H := Option.bind_eq_some_iff.mp H
      obtain ⟨t264, A110, H⟩ := H
      replace H : ((impl_CancelCircle.f k a0 t261 t264).bind fun bt267 => ((laws_eqDebtS.f k bt267.1 t256).bind fun t272 => (if t272 = true then (if bt267.2.1 = t257 then (laws_FnExactCancelCircle.j0 k a0 l1 l2 t256 t257 t258 t261 t264 bt267.1 bt267.2.1 bt267.2.2 (bt267.2.2 != t258)) else (laws_FnExactCancelCircle.j0 k a0 l1 l2 t256 t257 t258 t261 t264 bt267.1 bt267.2.1 bt267.2.2 true)) else (laws_FnExactCancelCircle.j0 k a0 l1 l2 t256 t257 t258 t261 t264 bt267.1 bt267.2.1 bt267.2.2 true)))) = some r := H
      have A11 := Aside0.mk A110
      clear A110
      replace H := Option.bind_eq_some_iff.mp H
      obtain ⟨⟨t267, t268, t269⟩, A120, H⟩ := H
      replace H : ((laws_eqDebtS.f k t267 t256).bind fun t272 => (if t272 = true then (if t268 = t257 then (laws_FnExactCancelCircle.j0 k a0 l1 l2 t256 t257 t258 t261 t264 t267 t268 t269 (t269 != t258)) else (laws_FnExactCancelCircle.j0 k a0 l1 l2 t256 t257 t258 t261 t264 t267 t268 t269 true)) else (laws_FnExactCancelCircle.j0 k a0 l1 l2 t256 t257 t258 t261 t264 t267 t268 t269 true))) = some r := H
      have A12 := Aside0.mk A120
      clear A120
      have HC13 := Aside0.mk H
      clear H
      go_enter Try.func7, Try.ntmps7
      go_upto_region 11 with (first | ((with_reducible refine gate_callee (f := 15) rfl ?_); refine goesL_ (some 27) rfl rfl Try.func15 (by kernel_rfl) rfl #[.slice A1 l1.length c1, .int .i64 1048576] rfl (by (try simp only [List.map_toArray, List.map_cons, List.map_nil]); first | done | (go_simp; done) | rfl | (simp only [List.length_drop, List.length_take]; rfl)) ?_; (with_reducible refine (laws_szDebtS.calls _ _ l1 1048576 t249 _ ?side1 ?side2 A5.out).mono ?_); (case side1 => repeat (first | exact HR1.out | (with_reducible refine Kd.C_alloc ?_ _) | (with_reducible refine Kd.C_drewN ?_ _) | (with_reducible refine Kd.C_drew ?_))); (case side2 => exact HC1.out); rintro e w' ⟨rfl, ⟨nd, rfl⟩⟩; refine ⟨_, rfl, ?_⟩) | ((with_reducible refine gate_callee (f := 17) rfl ?_); refine goesL_ (some 33) rfl rfl Try.func17 (by kernel_rfl) rfl #[.slice A1 l1.length c1] rfl (by (try simp only [List.map_toArray, List.map_cons, List.map_nil]); first | done | (go_simp; done) | rfl | (simp only [List.length_drop, List.length_take]; rfl)) ?_; (with_reducible refine (laws_toDebtS.calls k _ _ l1 t250 _ ?side1 ?side2 A7.out).mono ?_); (case side1 => repeat (first | exact HR1.out | (with_reducible refine Kd.C_alloc ?_ _) | (with_reducible refine Kd.C_drewN ?_ _) | (with_reducible refine Kd.C_drew ?_))); (case side2 => exact HC1.out); rintro e w14 ⟨v251, rfl, ho0, hb⟩; refine ⟨_, rfl, ?_⟩; have n0_ := Aside0.mk (Kd.R_lower ho0 (below_size (by repeat (first | (with_reducible first | exact HB.out | apply below_alloc | apply pw_below_drewN | apply below_drew1) | exact HB.out)))); have n1_ := Aside0.mk (below_step (by repeat (first | (with_reducible first | exact HB.out | apply below_alloc | apply pw_below_drewN | apply below_drew1) | exact HB.out)) hb); clear HB; have HO252 := n0_; have HB := n1_; clear n0_ n1_; (try clear hb); (try clear hb2); (try clear hk); (try clear hi); (try clear ho0)) | ((with_reducible refine gate_callee (f := 32) rfl ?_); refine goesL_ (some 35) rfl rfl Try.func32 (by kernel_rfl) rfl #[.slice A2 l2.length c2] rfl (by (try simp only [List.map_toArray, List.map_cons, List.map_nil]); first | done | (go_simp; done) | rfl | (simp only [List.length_drop, List.length_take]; rfl)) ?_; (with_reducible refine (laws_toInt64S.calls k _ _ l2 t253 _ ?side1 ?side2 A8.out).mono ?_); (case side1 => repeat (first | exact (Kd.C_below HR2.out HB.out) | (with_reducible refine Kd.C_alloc ?_ _) | (with_reducible refine Kd.C_drewN ?_ _) | (with_reducible refine Kd.C_drew ?_))); (case side2 => exact HC2.out); rintro e w15 ⟨v254, rfl, ho0, hb⟩; refine ⟨_, rfl, ?_⟩; have n0_ := Aside0.mk (Kd.R_below (by (with_reducible repeat (first | apply Kd.R_alloc | apply Kd.R_drewN | apply Kd.R_drew)); exact HO252.out) hb); have n1_ := Aside0.mk (Kd.R_lower ho0 (below_size (by repeat (first | (with_reducible first | exact HB.out | apply below_alloc | apply pw_below_drewN | apply below_drew1) | exact HB.out)))); have n2_ := Aside0.mk (below_step (by repeat (first | (with_reducible first | exact HB.out | apply below_alloc | apply pw_below_drewN | apply below_drew1) | exact HB.out)) hb); clear HO252; clear HB; have HO252 := n0_; have HO255 := n1_; have HB := n2_; clear n0_ n1_ n2_; (try clear hb); (try clear hb2); (try clear hk); (try clear hi); (try clear ho0); obtain ⟨Ao16, co16, eo16⟩ := Kd.R_slice HO252.out; subst eo16; obtain ⟨Ao17, co17, eo17⟩ := Kd.R_slice HO255.out; subst eo17) | ((with_reducible refine gate_callee (f := 31) rfl ?_); refine goesL_ (some 36) rfl rfl Try.func31 (by kernel_rfl) rfl #[.int .i64 a0, .slice Ao16 t250.length co16, .slice Ao17 t253.length co17] rfl (by (try simp only [List.map_toArray, List.map_cons, List.map_nil]); first | done | (go_simp; done) | rfl | (simp only [List.length_drop, List.length_take]; rfl)) ?_; (with_reducible refine (spec_CancelCircle.calls k a0 _ _ t250 _ _ t253 t256 t257 t258 _ ?side1 ?side2 ?side3 ?side4 A9.out).mono ?_); (case side1 => repeat (first | exact (Kd.R_reads' HO252.out).2.2 | (with_reducible refine Kd.C_alloc ?_ _) | (with_reducible refine Kd.C_drewN ?_ _) | (with_reducible refine Kd.C_drew ?_))); (case side2 => exact (Kd.R_reads' HO252.out).2.1); (case side3 => repeat (first | exact (Kd.R_reads' HO255.out).2.2 | (with_reducible refine Kd.C_alloc ?_ _) | (with_reducible refine Kd.C_drewN ?_ _) | (with_reducible refine Kd.C_drew ?_))); (case side4 => exact (Kd.R_reads' HO255.out).2.1); rintro e w18 ⟨v259, rfl, ho0, hb⟩; refine ⟨_, rfl, ?_⟩; have n0_ := Aside0.mk (Kd.R_elder' (by (with_reducible repeat (first | apply Kd.R_alloc | apply Kd.R_drewN | apply Kd.R_drew)); exact HO252.out) (Kd.R_base ho0) hb); have n1_ := Aside0.mk (Kd.R_below (by (with_reducible repeat (first | apply Kd.R_alloc | apply Kd.R_drewN | apply Kd.R_drew)); exact HO255.out) hb); have n2_ := Aside0.mk (Kd.R_lower (Kd.R_new' ho0 (Kd.R_lt (by (with_reducible repeat (first | apply Kd.R_alloc | apply Kd.R_drewN | apply Kd.R_drew)); exact HO252.out))) (below_size (by repeat (first | (with_reducible first | exact HB.out | apply below_alloc | apply pw_below_drewN | apply below_drew1) | exact HB.out)))); have n3_ := Aside0.mk (below_step (by repeat (first | (with_reducible first | exact HB.out | apply below_alloc | apply pw_below_drewN | apply below_drew1) | exact HB.out)) hb); clear HO252; clear HO255; clear HB; have HO252 := n0_; have HO255 := n1_; have HO260 := n2_; have HB := n3_; clear n0_ n1_ n2_ n3_; (try clear hb); (try clear hb2); (try clear hk); (try clear hi); (try clear ho0)) | ((with_reducible refine gate_callee (f := 17) rfl ?_); refine goesL_ (some 41) rfl rfl Try.func17 (by kernel_rfl) rfl #[.slice A1 l1.length c1] rfl (by (try simp only [List.map_toArray, List.map_cons, List.map_nil]); first | done | (go_simp; done) | rfl | (simp only [List.length_drop, List.length_take]; rfl)) ?_; (with_reducible refine (laws_toDebtS.calls k _ _ l1 t261 _ ?side1 ?side2 A10.out).mono ?_); (case side1 => repeat (first | exact (Kd.C_below HR1.out HB.out) | (with_reducible refine Kd.C_alloc ?_ _) | (with_reducible refine Kd.C_drewN ?_ _) | (with_reducible refine Kd.C_drew ?_))); (case side2 => exact HC1.out); rintro e w19 ⟨v262, rfl, ho0, hb⟩; refine ⟨_, rfl, ?_⟩; have n0_ := Aside0.mk (Kd.R_elder' (by (with_reducible repeat (first | apply Kd.R_alloc | apply Kd.R_drewN | apply Kd.R_drew)); exact HO252.out) (Kd.R_base ho0) hb); have n1_ := Aside0.mk (Kd.R_below (by (with_reducible repeat (first | apply Kd.R_alloc | apply Kd.R_drewN | apply Kd.R_drew)); exact HO255.out) hb); have n2_ := Aside0.mk (Kd.R_elder' (by (with_reducible repeat (first | apply Kd.R_alloc | apply Kd.R_drewN | apply Kd.R_drew)); exact HO260.out) (Kd.R_base ho0) hb); have n3_ := Aside0.mk (Kd.R_lower (Kd.R_new' (Kd.R_new' ho0 (Kd.R_lt (by (with_reducible repeat (first | apply Kd.R_alloc | apply Kd.R_drewN | apply Kd.R_drew)); exact HO252.out))) (Kd.R_lt (by (with_reducible repeat (first | apply Kd.R_alloc | apply Kd.R_drewN | apply Kd.R_drew)); exact HO260.out))) (below_size (by repeat (first | (with_reducible first | exact HB.out | apply below_alloc | apply pw_below_drewN | apply below_drew1) | exact HB.out)))); have n4_ := Aside0.mk (below_step (by repeat (first | (with_reducible first | exact HB.out | apply below_alloc | apply pw_below_drewN | apply below_drew1) | exact HB.out)) hb); clear HO252; clear HO255; clear HO260; clear HB; have HO252 := n0_; have HO255 := n1_; have HO260 := n2_; have HO263 := n3_; have HB := n4_; clear n0_ n1_ n2_ n3_ n4_; (try clear hb); (try clear hb2); (try clear hk); (try clear hi); (try clear ho0)) | ((with_reducible refine gate_callee (f := 32) rfl ?_); refine goesL_ (some 43) rfl rfl Try.func32 (by kernel_rfl) rfl #[.slice A2 l2.length c2] rfl (by (try simp only [List.map_toArray, List.map_cons, List.map_nil]); first | done | (go_simp; done) | rfl | (simp only [List.length_drop, List.length_take]; rfl)) ?_; (with_reducible refine (laws_toInt64S.calls k _ _ l2 t264 _ ?side1 ?side2 A11.out).mono ?_); (case side1 => repeat (first | exact (Kd.C_below HR2.out HB.out) | (with_reducible refine Kd.C_alloc ?_ _) | (with_reducible refine Kd.C_drewN ?_ _) | (with_reducible refine Kd.C_drew ?_))); (case side2 => exact HC2.out); rintro e w20 ⟨v265, rfl, ho0, hb⟩; refine ⟨_, rfl, ?_⟩; have n0_ := Aside0.mk (Kd.R_below (by (with_reducible repeat (first | apply Kd.R_alloc | apply Kd.R_drewN | apply Kd.R_drew)); exact HO252.out) hb); have n1_ := Aside0.mk (Kd.R_elder' (by (with_reducible repeat (first | apply Kd.R_alloc | apply Kd.R_drewN | apply Kd.R_drew)); exact HO255.out) (Kd.R_base ho0) hb); have n2_ := Aside0.mk (Kd.R_below (by (with_reducible repeat (first | apply Kd.R_alloc | apply Kd.R_drewN | apply Kd.R_drew)); exact HO260.out) hb); have n3_ := Aside0.mk (Kd.R_below (by (with_reducible repeat (first | apply Kd.R_alloc | apply Kd.R_drewN | apply Kd.R_drew)); exact HO263.out) hb); have n4_ := Aside0.mk (Kd.R_lower (Kd.R_new' ho0 (Kd.R_lt (by (with_reducible repeat (first | apply Kd.R_alloc | apply Kd.R_drewN | apply Kd.R_drew)); exact HO255.out))) (below_size (by repeat (first | (with_reducible first | exact HB.out | apply below_alloc | apply pw_below_drewN | apply below_drew1) | exact HB.out)))); have n5_ := Aside0.mk (below_step (by repeat (first | (with_reducible first | exact HB.out | apply below_alloc | apply pw_below_drewN | apply below_drew1) | exact HB.out)) hb); clear HO252; clear HO255; clear HO260; clear HO263; clear HB; have HO252 := n0_; have HO255 := n1_; have HO260 := n2_; have HO263 := n3_; have HO266 := n4_; have HB := n5_; clear n0_ n1_ n2_ n3_ n4_ n5_; (try clear hb); (try clear hb2); (try clear hk); (try clear hi); (try clear ho0); obtain ⟨Ao21, co21, eo21⟩ := Kd.R_slice HO263.out; subst eo21; obtain ⟨Ao22, co22, eo22⟩ := Kd.R_slice HO266.out; subst eo22) | ((with_reducible refine gate_callee (f := 33) rfl ?_); refine goesL_ (some 48) rfl rfl Try.func33 (by kernel_rfl) rfl #[.int .i64 a0, .slice Ao21 t261.length co21, .slice Ao22 t264.length co22] rfl (by (try simp only [List.map_toArray, List.map_cons, List.map_nil]); first | done | (go_simp; done) | rfl | (simp only [List.length_drop, List.length_take]; rfl)) ?_; (with_reducible refine (impl_CancelCircle.calls k a0 _ _ t261 _ _ t264 t267 t268 t269 _ ?side1 ?side2 ?side3 ?side4 A12.out).mono ?_); (case side1 => repeat (first | exact (Kd.R_reads' HO263.out).2.2 | (with_reducible refine Kd.C_alloc ?_ _) | (with_reducible refine Kd.C_drewN ?_ _) | (with_reducible refine Kd.C_drew ?_))); (case side2 => exact (Kd.R_reads' HO263.out).2.1); (case side3 => repeat (first | exact (Kd.R_reads' HO266.out).2.2 | (with_reducible refine Kd.C_alloc ?_ _) | (with_reducible refine Kd.C_drewN ?_ _) | (with_reducible refine Kd.C_drew ?_))); (case side4 => exact (Kd.R_reads' HO266.out).2.1); rintro e w23 ⟨v270, rfl, ho0, hb⟩; refine ⟨_, rfl, ?_⟩; have n0_ := Aside0.mk (Kd.R_elder' (by (with_reducible repeat (first | apply Kd.R_alloc | apply Kd.R_drewN | apply Kd.R_drew)); exact HO252.out) (Kd.R_base ho0) hb); have n1_ := Aside0.mk (Kd.R_below (by (with_reducible repeat (first | apply Kd.R_alloc | apply Kd.R_drewN | apply Kd.R_drew)); exact HO255.out) hb); have n2_ := Aside0.mk (Kd.R_elder' (by (with_reducible repeat (first | apply Kd.R_alloc | apply Kd.R_drewN | apply Kd.R_drew)); exact HO260.out) (Kd.R_base ho0) hb); have n3_ := Aside0.mk (Kd.R_elder' (by (with_reducible repeat (first | apply Kd.R_alloc | apply Kd.R_drewN | apply Kd.R_drew)); exact HO263.out) (Kd.R_base ho0) hb); have n4_ := Aside0.mk (Kd.R_below (by (with_reducible repeat (first | apply Kd.R_alloc | apply Kd.R_drewN | apply Kd.R_drew)); exact HO266.out) hb); have n5_ := Aside0.mk (Kd.R_lower (Kd.R_new' (Kd.R_new' (Kd.R_new' ho0 (Kd.R_lt (by (with_reducible repeat (first | apply Kd.R_alloc | apply Kd.R_drewN | apply Kd.R_drew)); exact HO252.out))) (Kd.R_lt (by (with_reducible repeat (first | apply Kd.R_alloc | apply Kd.R_drewN | apply Kd.R_drew)); exact HO260.out))) (Kd.R_lt (by (with_reducible repeat (first | apply Kd.R_alloc | apply Kd.R_drewN | apply Kd.R_drew)); exact HO263.out))) (below_size (by repeat (first | (with_reducible first | exact HB.out | apply below_alloc | apply pw_below_drewN | apply below_drew1) | exact HB.out)))); have n6_ := Aside0.mk (below_step (by repeat (first | (with_reducible first | exact HB.out | apply below_alloc | apply pw_below_drewN | apply below_drew1) | exact HB.out)) hb); clear HO252; clear HO255; clear HO260; clear HO263; clear HO266; clear HB; have HO252 := n0_; have HO255 := n1_; have HO260 := n2_; have HO263 := n3_; have HO266 := n4_; have HO271 := n5_; have HB := n6_; clear n0_ n1_ n2_ n3_ n4_ n5_ n6_; (try clear hb); (try clear hb2); (try clear hk); (try clear hi); (try clear ho0)))
      (try simp only [Act.put, List.setIfInBounds_toArray, List.set_cons_zero, List.set_cons_succ])
      go_cut [65] (fun v65 wc => ∃ (kq : Nat) (x65_12 : Bool), v65 = .bool x65_12 ∧ Aside0 (laws_FnExactCancelCircle.j0 kq a0 l1 l2 t256 t257 t258 t261 t264 t267 t268 t269 x65_12 = some r) ∧ Aside0 (kq ≤ k) ∧ Aside0 (Kd.R k65 65 wc w.heap.size (fun k_ => some k_ ≠ ((.slice Ao21 t261.length co21) : Value).ownBlock ∧ some k_ ≠ (v270 : Value).ownBlock) v259 t256) ∧ Aside0 (Kd.R k65 65 wc w.heap.size (fun k_ => some k_ ≠ (v259 : Value).ownBlock ∧ some k_ ≠ (v270 : Value).ownBlock) (.slice Ao21 t261.length co21) t261) ∧ Aside0 (Kd.R (Kd.int .i64) 2 wc w.heap.size (fun _ => True) (.slice Ao22 t264.length co22) t264) ∧ Aside0 (Kd.R k65 65 wc w.heap.size (fun k_ => some k_ ≠ (v259 : Value).ownBlock ∧ some k_ ≠ ((.slice Ao21 t261.length co21) : Value).ownBlock) v270 t267) ∧ Aside0 (Below w.heap.size w wc))
      case first =>
        have H := HC13.out
        clear HC13
        replace H := Option.bind_eq_some_iff.mp H
        obtain ⟨t272, A240, H⟩ := H
        replace H : (if t272 = true then (if t268 = t257 then (laws_FnExactCancelCircle.j0 k a0 l1 l2 t256 t257 t258 t261 t264 t267 t268 t269 (t269 != t258)) else (laws_FnExactCancelCircle.j0 k a0 l1 l2 t256 t257 t258 t261 t264 t267 t268 t269 true)) else (laws_FnExactCancelCircle.j0 k a0 l1 l2 t256 t257 t258 t261 t264 t267 t268 t269 true)) = some r := H
        have A24 := Aside0.mk A240
        clear A240
        by_cases c25 : t272 = true
        · subst c25
          have H1 : (if t268 = t257 then (laws_FnExactCancelCircle.j0 k a0 l1 l2 t256 t257 t258 t261 t264 t267 t268 t269 (t269 != t258)) else (laws_FnExactCancelCircle.j0 k a0 l1 l2 t256 t257 t258 t261 t264 t267 t268 t269 true)) = some r := by rw [if_pos rfl] at H; exact H
          clear H
          have H := H1
          clear H1
          by_cases c26 : t268 = t257
          · rw [if_pos c26] at H
            have c26b0 : (t268 == t257) = true := beq_iff_eq.mpr c26
            have c26b1 : (t268 != t257) = false := bne_eq_false_iff_eq.mpr c26
            clear c26
            (first | rw [c26b0] | (simp only [i64_w, i32_w]; rw [c26b0]) | skip)
            have H' := Aside0.mk H
            clear H
            obtain ⟨Ao27, co27, eo27⟩ := Kd.R_slice HO271.out
            subst eo27
            obtain ⟨Ao28, co28, eo28⟩ := Kd.R_slice HO260.out
            subst eo28
            go_wp2_with (first | ((with_reducible refine gate_callee (f := 19) rfl ?_); refine goesL_ (some 54) rfl rfl Try.func19 (by kernel_rfl) rfl #[.slice Ao27 t267.length co27, .slice Ao28 t256.length co28] rfl (by (try simp only [List.map_toArray, List.map_cons, List.map_nil]); first | done | (go_simp; done) | rfl | (simp only [List.length_drop, List.length_take]; rfl)) ?_; (with_reducible refine (laws_eqDebtS.calls k _ _ t267 _ _ t256 true _ ?side1 ?side2 ?side3 ?side4 A24.out).mono ?_); (case side1 => repeat (first | exact (Kd.R_reads' HO271.out).2.2 | (with_reducible refine Kd.C_alloc ?_ _) | (with_reducible refine Kd.C_drewN ?_ _) | (with_reducible refine Kd.C_drew ?_))); (case side2 => exact (Kd.R_reads' HO271.out).2.1); (case side3 => repeat (first | exact (Kd.R_reads' HO260.out).2.2 | (with_reducible refine Kd.C_alloc ?_ _) | (with_reducible refine Kd.C_drewN ?_ _) | (with_reducible refine Kd.C_drew ?_))); (case side4 => exact (Kd.R_reads' HO260.out).2.1); rintro e w29 ⟨rfl, hb⟩; refine ⟨_, rfl, ?_⟩; have n0_ := Aside0.mk (Kd.R_below (by (with_reducible repeat (first | apply Kd.R_alloc | apply Kd.R_drewN | apply Kd.R_drew)); exact HO252.out) hb); have n1_ := Aside0.mk (Kd.R_below (by (with_reducible repeat (first | apply Kd.R_alloc | apply Kd.R_drewN | apply Kd.R_drew)); exact HO255.out) hb); have n2_ := Aside0.mk (Kd.R_below (by (with_reducible repeat (first | apply Kd.R_alloc | apply Kd.R_drewN | apply Kd.R_drew)); exact HO260.out) hb); have n3_ := Aside0.mk (Kd.R_below (by (with_reducible repeat (first | apply Kd.R_alloc | apply Kd.R_drewN | apply Kd.R_drew)); exact HO263.out) hb); have n4_ := Aside0.mk (Kd.R_below (by (with_reducible repeat (first | apply Kd.R_alloc | apply Kd.R_drewN | apply Kd.R_drew)); exact HO266.out) hb); have n5_ := Aside0.mk (Kd.R_below (by (with_reducible repeat (first | apply Kd.R_alloc | apply Kd.R_drewN | apply Kd.R_drew)); exact HO271.out) hb); have n6_ := Aside0.mk (below_step (by repeat (first | (with_reducible first | exact HB.out | apply below_alloc | apply pw_below_drewN | apply below_drew1) | exact HB.out)) hb); clear HO252; clear HO255; clear HO260; clear HO263; clear HO266; clear HO271; clear HB; have HO252 := n0_; have HO255 := n1_; have HO260 := n2_; have HO263 := n3_; have HO266 := n4_; have HO271 := n5_; have HB := n6_; clear n0_ n1_ n2_ n3_ n4_ n5_ n6_; (try clear hb); (try clear hb2); (try clear hk); (try clear hi)))
            go_meet
            case rel => exact ⟨_, ((t269 != t258)), (by first | rfl | (simp; done) | (simp [*]; done)), H', ⟨by first | omega | exact Nat.le_refl _⟩, ⟨by (with_reducible repeat (first | apply Kd.R_alloc | apply Kd.R_drewN | apply Kd.R_drew)); exact Kd.R_mono HO260.out (fun _ hk => ⟨hk.1.2, hk.2⟩)⟩, ⟨by (with_reducible repeat (first | apply Kd.R_alloc | apply Kd.R_drewN | apply Kd.R_drew)); exact Kd.R_mono HO263.out (fun _ hk => ⟨hk.1.2, hk.2⟩)⟩, ⟨by (with_reducible repeat (first | apply Kd.R_alloc | apply Kd.R_drewN | apply Kd.R_drew)); exact Kd.R_mono HO266.out (fun _ hk => trivial)⟩, ⟨by (with_reducible repeat (first | apply Kd.R_alloc | apply Kd.R_drewN | apply Kd.R_drew)); exact Kd.R_mono HO271.out (fun _ hk => ⟨hk.1.2, hk.2⟩)⟩, ⟨by repeat (first | (with_reducible first | exact HB.out | apply below_alloc | apply pw_below_drewN | apply below_drew1) | exact HB.out)⟩⟩
          · rw [if_neg c26] at H
            have c26b0 : (t268 == t257) = false := beq_eq_false_iff_ne.mpr c26
            have c26b1 : (t268 != t257) = true := bne_iff_ne.mpr c26
            (first | rw [c26b0] | (simp only [i64_w, i32_w]; rw [c26b0]) | skip)
            have H' := Aside0.mk H
            clear H
            obtain ⟨Ao30, co30, eo30⟩ := Kd.R_slice HO271.out
            subst eo30
            obtain ⟨Ao31, co31, eo31⟩ := Kd.R_slice HO260.out
            subst eo31
            go_wp2_with (first | ((with_reducible refine gate_callee (f := 19) rfl ?_); refine goesL_ (some 54) rfl rfl Try.func19 (by kernel_rfl) rfl #[.slice Ao30 t267.length co30, .slice Ao31 t256.length co31] rfl (by (try simp only [List.map_toArray, List.map_cons, List.map_nil]); first | done | (go_simp; done) | rfl | (simp only [List.length_drop, List.length_take]; rfl)) ?_; (with_reducible refine (laws_eqDebtS.calls k _ _ t267 _ _ t256 true _ ?side1 ?side2 ?side3 ?side4 A24.out).mono ?_); (case side1 => repeat (first | exact (Kd.R_reads' HO271.out).2.2 | (with_reducible refine Kd.C_alloc ?_ _) | (with_reducible refine Kd.C_drewN ?_ _) | (with_reducible refine Kd.C_drew ?_))); (case side2 => exact (Kd.R_reads' HO271.out).2.1); (case side3 => repeat (first | exact (Kd.R_reads' HO260.out).2.2 | (with_reducible refine Kd.C_alloc ?_ _) | (with_reducible refine Kd.C_drewN ?_ _) | (with_reducible refine Kd.C_drew ?_))); (case side4 => exact (Kd.R_reads' HO260.out).2.1); rintro e w32 ⟨rfl, hb⟩; refine ⟨_, rfl, ?_⟩; have n0_ := Aside0.mk (Kd.R_below (by (with_reducible repeat (first | apply Kd.R_alloc | apply Kd.R_drewN | apply Kd.R_drew)); exact HO252.out) hb); have n1_ := Aside0.mk (Kd.R_below (by (with_reducible repeat (first | apply Kd.R_alloc | apply Kd.R_drewN | apply Kd.R_drew)); exact HO255.out) hb); have n2_ := Aside0.mk (Kd.R_below (by (with_reducible repeat (first | apply Kd.R_alloc | apply Kd.R_drewN | apply Kd.R_drew)); exact HO260.out) hb); have n3_ := Aside0.mk (Kd.R_below (by (with_reducible repeat (first | apply Kd.R_alloc | apply Kd.R_drewN | apply Kd.R_drew)); exact HO263.out) hb); have n4_ := Aside0.mk (Kd.R_below (by (with_reducible repeat (first | apply Kd.R_alloc | apply Kd.R_drewN | apply Kd.R_drew)); exact HO266.out) hb); have n5_ := Aside0.mk (Kd.R_below (by (with_reducible repeat (first | apply Kd.R_alloc | apply Kd.R_drewN | apply Kd.R_drew)); exact HO271.out) hb); have n6_ := Aside0.mk (below_step (by repeat (first | (with_reducible first | exact HB.out | apply below_alloc | apply pw_below_drewN | apply below_drew1) | exact HB.out)) hb); clear HO252; clear HO255; clear HO260; clear HO263; clear HO266; clear HO271; clear HB; have HO252 := n0_; have HO255 := n1_; have HO260 := n2_; have HO263 := n3_; have HO266 := n4_; have HO271 := n5_; have HB := n6_; clear n0_ n1_ n2_ n3_ n4_ n5_ n6_; (try clear hb); (try clear hb2); (try clear hk); (try clear hi)))
            go_meet
            case rel => exact ⟨_, (true), (by first | rfl | (simp; done) | (simp [*]; done)), H', ⟨by first | omega | exact Nat.le_refl _⟩, ⟨by (with_reducible repeat (first | apply Kd.R_alloc | apply Kd.R_drewN | apply Kd.R_drew)); exact Kd.R_mono HO260.out (fun _ hk => ⟨hk.1.2, hk.2⟩)⟩, ⟨by (with_reducible repeat (first | apply Kd.R_alloc | apply Kd.R_drewN | apply Kd.R_drew)); exact Kd.R_mono HO263.out (fun _ hk => ⟨hk.1.2, hk.2⟩)⟩, ⟨by (with_reducible repeat (first | apply Kd.R_alloc | apply Kd.R_drewN | apply Kd.R_drew)); exact Kd.R_mono HO266.out (fun _ hk => trivial)⟩, ⟨by (with_reducible repeat (first | apply Kd.R_alloc | apply Kd.R_drewN | apply Kd.R_drew)); exact Kd.R_mono HO271.out (fun _ hk => ⟨hk.1.2, hk.2⟩)⟩, ⟨by repeat (first | (with_reducible first | exact HB.out | apply below_alloc | apply pw_below_drewN | apply below_drew1) | exact HB.out)⟩⟩
        · replace c25 := Bool.eq_false_iff.mpr c25
          subst c25
          have H1 : (laws_FnExactCancelCircle.j0 k a0 l1 l2 t256 t257 t258 t261 t264 t267 t268 t269 true) = some r := by rw [if_neg (show ¬ (false = true) by decide)] at H; exact H
          clear H
          have H := H1
          clear H1
          have H' := Aside0.mk H
          clear H
          obtain ⟨Ao33, co33, eo33⟩ := Kd.R_slice HO271.out
          subst eo33
          obtain ⟨Ao34, co34, eo34⟩ := Kd.R_slice HO260.out
          subst eo34
          go_wp2_with (first | ((with_reducible refine gate_callee (f := 19) rfl ?_); refine goesL_ (some 54) rfl rfl Try.func19 (by kernel_rfl) rfl #[.slice Ao33 t267.length co33, .slice Ao34 t256.length co34] rfl (by (try simp only [List.map_toArray, List.map_cons, List.map_nil]); first | done | (go_simp; done) | rfl | (simp only [List.length_drop, List.length_take]; rfl)) ?_; (with_reducible refine (laws_eqDebtS.calls k _ _ t267 _ _ t256 false _ ?side1 ?side2 ?side3 ?side4 A24.out).mono ?_); (case side1 => repeat (first | exact (Kd.R_reads' HO271.out).2.2 | (with_reducible refine Kd.C_alloc ?_ _) | (with_reducible refine Kd.C_drewN ?_ _) | (with_reducible refine Kd.C_drew ?_))); (case side2 => exact (Kd.R_reads' HO271.out).2.1); (case side3 => repeat (first | exact (Kd.R_reads' HO260.out).2.2 | (with_reducible refine Kd.C_alloc ?_ _) | (with_reducible refine Kd.C_drewN ?_ _) | (with_reducible refine Kd.C_drew ?_))); (case side4 => exact (Kd.R_reads' HO260.out).2.1); rintro e w35 ⟨rfl, hb⟩; refine ⟨_, rfl, ?_⟩; have n0_ := Aside0.mk (Kd.R_below (by (with_reducible repeat (first | apply Kd.R_alloc | apply Kd.R_drewN | apply Kd.R_drew)); exact HO252.out) hb); have n1_ := Aside0.mk (Kd.R_below (by (with_reducible repeat (first | apply Kd.R_alloc | apply Kd.R_drewN | apply Kd.R_drew)); exact HO255.out) hb); have n2_ := Aside0.mk (Kd.R_below (by (with_reducible repeat (first | apply Kd.R_alloc | apply Kd.R_drewN | apply Kd.R_drew)); exact HO260.out) hb); have n3_ := Aside0.mk (Kd.R_below (by (with_reducible repeat (first | apply Kd.R_alloc | apply Kd.R_drewN | apply Kd.R_drew)); exact HO263.out) hb); have n4_ := Aside0.mk (Kd.R_below (by (with_reducible repeat (first | apply Kd.R_alloc | apply Kd.R_drewN | apply Kd.R_drew)); exact HO266.out) hb); have n5_ := Aside0.mk (Kd.R_below (by (with_reducible repeat (first | apply Kd.R_alloc | apply Kd.R_drewN | apply Kd.R_drew)); exact HO271.out) hb); have n6_ := Aside0.mk (below_step (by repeat (first | (with_reducible first | exact HB.out | apply below_alloc | apply pw_below_drewN | apply below_drew1) | exact HB.out)) hb); clear HO252; clear HO255; clear HO260; clear HO263; clear HO266; clear HO271; clear HB; have HO252 := n0_; have HO255 := n1_; have HO260 := n2_; have HO263 := n3_; have HO266 := n4_; have HO271 := n5_; have HB := n6_; clear n0_ n1_ n2_ n3_ n4_ n5_ n6_; (try clear hb); (try clear hb2); (try clear hk); (try clear hi)))
          go_meet
          case rel => exact ⟨_, (true), (by first | rfl | (simp; done) | (simp [*]; done)), H', ⟨by first | omega | exact Nat.le_refl _⟩, ⟨by (with_reducible repeat (first | apply Kd.R_alloc | apply Kd.R_drewN | apply Kd.R_drew)); exact Kd.R_mono HO260.out (fun _ hk => ⟨hk.1.2, hk.2⟩)⟩, ⟨by (with_reducible repeat (first | apply Kd.R_alloc | apply Kd.R_drewN | apply Kd.R_drew)); exact Kd.R_mono HO263.out (fun _ hk => ⟨hk.1.2, hk.2⟩)⟩, ⟨by (with_reducible repeat (first | apply Kd.R_alloc | apply Kd.R_drewN | apply Kd.R_drew)); exact Kd.R_mono HO266.out (fun _ hk => trivial)⟩, ⟨by (with_reducible repeat (first | apply Kd.R_alloc | apply Kd.R_drewN | apply Kd.R_drew)); exact Kd.R_mono HO271.out (fun _ hk => ⟨hk.1.2, hk.2⟩)⟩, ⟨by repeat (first | (with_reducible first | exact HB.out | apply below_alloc | apply pw_below_drewN | apply below_drew1) | exact HB.out)⟩⟩
      case rest =>
        clear HC13
        try clear c1
        try clear c2
        try clear p2
        try clear c3
        try clear c4
        try clear c4b0
        try clear c4b1
        try clear c6
        try clear c6b0
        try clear c7
        try clear c15
        try clear c17
        try clear c19
        try clear c25
        try clear c26
        try clear c26b0
        try clear c26b1
        try clear c31
        try clear c32
        try clear c33
        obtain ⟨kq, x65_12, rfl, HA, HJ12, HO_8, HO_11, HO_12, HO_13, HB⟩ := hcut
        cases kq with
        | zero => exact absurd HA.out (by simp [laws_FnExactCancelCircle.j0])
        | succ kj12 =>
          have H := HA.out
          clear HA
          simp only [laws_FnExactCancelCircle.j0] at H
          by_cases c36 : x65_12 = true
          · subst c36
            have H1 : (some false) = some r := by rw [if_pos rfl] at H; exact H
            clear H
            have H := H1
            clear H1
            obtain rfl := Option.some.inj H
            cases ht
          · replace c36 := Bool.eq_false_iff.mpr c36
            subst c36
            have H1 : ((laws_toDebtS.f kj12 l1).bind fun t273 => ((laws_eqDebtS.f kj12 t261 t273).bind fun t276 => (if t276 = true then ((laws_toInt64S.f kj12 l2).bind fun t277 => ((laws_eqInt64S.f kj12 t264 t277).bind fun t280 => (if t280 = true then ((laws_markDebtS.f kj12 t261 1).bind fun bt281 => ((laws_markInt64S.f kj12 t264 bt281.1).bind fun bt283 => (if bt283.1 < 0 then (laws_FnExactCancelCircle.j1 kj12 a0 l1 l2 t256 t257 t258 t267 true) else ((laws_eqDebtS.f kj12 t267 t256).bind fun t285 => (if t285 = true then (if t268 = t257 then (laws_FnExactCancelCircle.j1 kj12 a0 l1 l2 t256 t257 t258 t267 (t269 != t258)) else (laws_FnExactCancelCircle.j1 kj12 a0 l1 l2 t256 t257 t258 t267 true)) else (laws_FnExactCancelCircle.j1 kj12 a0 l1 l2 t256 t257 t258 t267 true)))))) else (some false)))) else (some false)))) = some r := by rw [if_neg (show ¬ (false = true) by decide)] at H; exact H
            clear H
            have H := H1
            clear H1
            replace H := Option.bind_eq_some_iff.mp H
            obtain ⟨t273, A370, H⟩ := H
            replace H : ((laws_eqDebtS.f kj12 t261 t273).bind fun t276 => (if t276 = true then ((laws_toInt64S.f kj12 l2).bind fun t277 => ((laws_eqInt64S.f kj12 t264 t277).bind fun t280 => (if t280 = true then ((laws_markDebtS.f kj12 t261 1).bind fun bt281 => ((laws_markInt64S.f kj12 t264 bt281.1).bind fun bt283 => (if bt283.1 < 0 then (laws_FnExactCancelCircle.j1 kj12 a0 l1 l2 t256 t257 t258 t267 true) else ((laws_eqDebtS.f kj12 t267 t256).bind fun t285 => (if t285 = true then (if t268 = t257 then (laws_FnExactCancelCircle.j1 kj12 a0 l1 l2 t256 t257 t258 t267 (t269 != t258)) else (laws_FnExactCancelCircle.j1 kj12 a0 l1 l2 t256 t257 t258 t267 true)) else (laws_FnExactCancelCircle.j1 kj12 a0 l1 l2 t256 t257 t258 t267 true)))))) else (some false)))) else (some false))) = some r := H
            have A37 := Aside0.mk A370
            clear A370
            replace H := Option.bind_eq_some_iff.mp H
            obtain ⟨t276, A380, H⟩ := H
            replace H : (if t276 = true then ((laws_toInt64S.f kj12 l2).bind fun t277 => ((laws_eqInt64S.f kj12 t264 t277).bind fun t280 => (if t280 = true then ((laws_markDebtS.f kj12 t261 1).bind fun bt281 => ((laws_markInt64S.f kj12 t264 bt281.1).bind fun bt283 => (if bt283.1 < 0 then (laws_FnExactCancelCircle.j1 kj12 a0 l1 l2 t256 t257 t258 t267 true) else ((laws_eqDebtS.f kj12 t267 t256).bind fun t285 => (if t285 = true then (if t268 = t257 then (laws_FnExactCancelCircle.j1 kj12 a0 l1 l2 t256 t257 t258 t267 (t269 != t258)) else (laws_FnExactCancelCircle.j1 kj12 a0 l1 l2 t256 t257 t258 t267 true)) else (laws_FnExactCancelCircle.j1 kj12 a0 l1 l2 t256 t257 t258 t267 true)))))) else (some false)))) else (some false)) = some r := H
            have A38 := Aside0.mk A380
            clear A380
            by_cases c39 : t276 = true
            · subst c39
              have H1 : ((laws_toInt64S.f kj12 l2).bind fun t277 => ((laws_eqInt64S.f kj12 t264 t277).bind fun t280 => (if t280 = true then ((laws_markDebtS.f kj12 t261 1).bind fun bt281 => ((laws_markInt64S.f kj12 t264 bt281.1).bind fun bt283 => (if bt283.1 < 0 then (laws_FnExactCancelCircle.j1 kj12 a0 l1 l2 t256 t257 t258 t267 true) else ((laws_eqDebtS.f kj12 t267 t256).bind fun t285 => (if t285 = true then (if t268 = t257 then (laws_FnExactCancelCircle.j1 kj12 a0 l1 l2 t256 t257 t258 t267 (t269 != t258)) else (laws_FnExactCancelCircle.j1 kj12 a0 l1 l2 t256 t257 t258 t267 true)) else (laws_FnExactCancelCircle.j1 kj12 a0 l1 l2 t256 t257 t258 t267 true)))))) else (some false)))) = some r := by rw [if_pos rfl] at H; exact H
              clear H
              have H := H1
              clear H1
              replace H := Option.bind_eq_some_iff.mp H
              obtain ⟨t277, A400, H⟩ := H
              replace H : ((laws_eqInt64S.f kj12 t264 t277).bind fun t280 => (if t280 = true then ((laws_markDebtS.f kj12 t261 1).bind fun bt281 => ((laws_markInt64S.f kj12 t264 bt281.1).bind fun bt283 => (if bt283.1 < 0 then (laws_FnExactCancelCircle.j1 kj12 a0 l1 l2 t256 t257 t258 t267 true) else ((laws_eqDebtS.f kj12 t267 t256).bind fun t285 => (if t285 = true then (if t268 = t257 then (laws_FnExactCancelCircle.j1 kj12 a0 l1 l2 t256 t257 t258 t267 (t269 != t258)) else (laws_FnExactCancelCircle.j1 kj12 a0 l1 l2 t256 t257 t258 t267 true)) else (laws_FnExactCancelCircle.j1 kj12 a0 l1 l2 t256 t257 t258 t267 true)))))) else (some false))) = some r := H
              have A40 := Aside0.mk A400
              clear A400
              replace H := Option.bind_eq_some_iff.mp H
              obtain ⟨t280, A410, H⟩ := H
              replace H : (if t280 = true then ((laws_markDebtS.f kj12 t261 1).bind fun bt281 => ((laws_markInt64S.f kj12 t264 bt281.1).bind fun bt283 => (if bt283.1 < 0 then (laws_FnExactCancelCircle.j1 kj12 a0 l1 l2 t256 t257 t258 t267 true) else ((laws_eqDebtS.f kj12 t267 t256).bind fun t285 => (if t285 = true then (if t268 = t257 then (laws_FnExactCancelCircle.j1 kj12 a0 l1 l2 t256 t257 t258 t267 (t269 != t258)) else (laws_FnExactCancelCircle.j1 kj12 a0 l1 l2 t256 t257 t258 t267 true)) else (laws_FnExactCancelCircle.j1 kj12 a0 l1 l2 t256 t257 t258 t267 true)))))) else (some false)) = some r := H
              have A41 := Aside0.mk A410
              clear A410
              by_cases c42 : t280 = true
              · subst c42
                have H1 : ((laws_markDebtS.f kj12 t261 1).bind fun bt281 => ((laws_markInt64S.f kj12 t264 bt281.1).bind fun bt283 => (if bt283.1 < 0 then (laws_FnExactCancelCircle.j1 kj12 a0 l1 l2 t256 t257 t258 t267 true) else ((laws_eqDebtS.f kj12 t267 t256).bind fun t285 => (if t285 = true then (if t268 = t257 then (laws_FnExactCancelCircle.j1 kj12 a0 l1 l2 t256 t257 t258 t267 (t269 != t258)) else (laws_FnExactCancelCircle.j1 kj12 a0 l1 l2 t256 t257 t258 t267 true)) else (laws_FnExactCancelCircle.j1 kj12 a0 l1 l2 t256 t257 t258 t267 true)))))) = some r := by rw [if_pos rfl] at H; exact H
                clear H
                have H := H1
                clear H1
                replace H := Option.bind_eq_some_iff.mp H
                obtain ⟨⟨t281, t282⟩, A430, H⟩ := H
                replace H : ((laws_markInt64S.f kj12 t264 t281).bind fun bt283 => (if bt283.1 < 0 then (laws_FnExactCancelCircle.j1 kj12 a0 l1 l2 t256 t257 t258 t267 true) else ((laws_eqDebtS.f kj12 t267 t256).bind fun t285 => (if t285 = true then (if t268 = t257 then (laws_FnExactCancelCircle.j1 kj12 a0 l1 l2 t256 t257 t258 t267 (t269 != t258)) else (laws_FnExactCancelCircle.j1 kj12 a0 l1 l2 t256 t257 t258 t267 true)) else (laws_FnExactCancelCircle.j1 kj12 a0 l1 l2 t256 t257 t258 t267 true))))) = some r := H
                have A43 := Aside0.mk A430
                clear A430
                replace H := Option.bind_eq_some_iff.mp H
                obtain ⟨⟨t283, t284⟩, A440, H⟩ := H
                replace H : (if t283 < 0 then (laws_FnExactCancelCircle.j1 kj12 a0 l1 l2 t256 t257 t258 t267 true) else ((laws_eqDebtS.f kj12 t267 t256).bind fun t285 => (if t285 = true then (if t268 = t257 then (laws_FnExactCancelCircle.j1 kj12 a0 l1 l2 t256 t257 t258 t267 (t269 != t258)) else (laws_FnExactCancelCircle.j1 kj12 a0 l1 l2 t256 t257 t258 t267 true)) else (laws_FnExactCancelCircle.j1 kj12 a0 l1 l2 t256 t257 t258 t267 true)))) = some r := H
                have A44 := Aside0.mk A440
                clear A440
                have HC45 := Aside0.mk H
                clear H
                go_upto_region 20 with (first | ((with_reducible refine gate_callee (f := 17) rfl ?_); refine goesL_ (some 68) rfl rfl Try.func17 (by kernel_rfl) rfl #[.slice A1 l1.length c1] rfl (by (try simp only [List.map_toArray, List.map_cons, List.map_nil]); first | done | (go_simp; done) | rfl | (simp only [List.length_drop, List.length_take]; rfl)) ?_; (with_reducible refine (laws_toDebtS.calls kj12 _ _ l1 t273 _ ?side1 ?side2 A37.out).mono ?_); (case side1 => repeat (first | exact (Kd.C_below HR1.out HB.out) | (with_reducible refine Kd.C_alloc ?_ _) | (with_reducible refine Kd.C_drewN ?_ _) | (with_reducible refine Kd.C_drew ?_))); (case side2 => exact HC1.out); rintro e w46 ⟨v274, rfl, ho0, hb⟩; refine ⟨_, rfl, ?_⟩; have n0_ := Aside0.mk (Kd.R_elder' (by (with_reducible repeat (first | apply Kd.R_alloc | apply Kd.R_drewN | apply Kd.R_drew)); exact HO_8.out) (Kd.R_base ho0) hb); have n1_ := Aside0.mk (Kd.R_elder' (by (with_reducible repeat (first | apply Kd.R_alloc | apply Kd.R_drewN | apply Kd.R_drew)); exact HO_11.out) (Kd.R_base ho0) hb); have n2_ := Aside0.mk (Kd.R_below (by (with_reducible repeat (first | apply Kd.R_alloc | apply Kd.R_drewN | apply Kd.R_drew)); exact HO_12.out) hb); have n3_ := Aside0.mk (Kd.R_elder' (by (with_reducible repeat (first | apply Kd.R_alloc | apply Kd.R_drewN | apply Kd.R_drew)); exact HO_13.out) (Kd.R_base ho0) hb); have n4_ := Aside0.mk (Kd.R_lower (Kd.R_new' (Kd.R_new' (Kd.R_new' ho0 (Kd.R_lt (by (with_reducible repeat (first | apply Kd.R_alloc | apply Kd.R_drewN | apply Kd.R_drew)); exact HO_8.out))) (Kd.R_lt (by (with_reducible repeat (first | apply Kd.R_alloc | apply Kd.R_drewN | apply Kd.R_drew)); exact HO_11.out))) (Kd.R_lt (by (with_reducible repeat (first | apply Kd.R_alloc | apply Kd.R_drewN | apply Kd.R_drew)); exact HO_13.out))) (below_size (by repeat (first | (with_reducible first | exact HB.out | apply below_alloc | apply pw_below_drewN | apply below_drew1) | exact HB.out)))); have n5_ := Aside0.mk (below_step (by repeat (first | (with_reducible first | exact HB.out | apply below_alloc | apply pw_below_drewN | apply below_drew1) | exact HB.out)) hb); clear HO_8; clear HO_11; clear HO_12; clear HO_13; clear HB; have HO_8 := n0_; have HO_11 := n1_; have HO_12 := n2_; have HO_13 := n3_; have HO275 := n4_; have HB := n5_; clear n0_ n1_ n2_ n3_ n4_ n5_; (try clear hb); (try clear hb2); (try clear hk); (try clear hi); (try clear ho0); obtain ⟨Ao47, co47, eo47⟩ := Kd.R_slice HO275.out; subst eo47) | ((with_reducible refine gate_callee (f := 19) rfl ?_); refine goesL_ (some 69) rfl rfl Try.func19 (by kernel_rfl) rfl #[.slice Ao21 t261.length co21, .slice Ao47 t273.length co47] rfl (by (try simp only [List.map_toArray, List.map_cons, List.map_nil]); first | done | (go_simp; done) | rfl | (simp only [List.length_drop, List.length_take]; rfl)) ?_; (with_reducible refine (laws_eqDebtS.calls kj12 _ _ t261 _ _ t273 true _ ?side1 ?side2 ?side3 ?side4 A38.out).mono ?_); (case side1 => repeat (first | exact (Kd.R_reads' HO_11.out).2.2 | (with_reducible refine Kd.C_alloc ?_ _) | (with_reducible refine Kd.C_drewN ?_ _) | (with_reducible refine Kd.C_drew ?_))); (case side2 => exact (Kd.R_reads' HO_11.out).2.1); (case side3 => repeat (first | exact (Kd.R_reads' HO275.out).2.2 | (with_reducible refine Kd.C_alloc ?_ _) | (with_reducible refine Kd.C_drewN ?_ _) | (with_reducible refine Kd.C_drew ?_))); (case side4 => exact (Kd.R_reads' HO275.out).2.1); rintro e w48 ⟨rfl, hb⟩; refine ⟨_, rfl, ?_⟩; have n0_ := Aside0.mk (Kd.R_below (by (with_reducible repeat (first | apply Kd.R_alloc | apply Kd.R_drewN | apply Kd.R_drew)); exact HO_8.out) hb); have n1_ := Aside0.mk (Kd.R_below (by (with_reducible repeat (first | apply Kd.R_alloc | apply Kd.R_drewN | apply Kd.R_drew)); exact HO_11.out) hb); have n2_ := Aside0.mk (Kd.R_below (by (with_reducible repeat (first | apply Kd.R_alloc | apply Kd.R_drewN | apply Kd.R_drew)); exact HO_12.out) hb); have n3_ := Aside0.mk (Kd.R_below (by (with_reducible repeat (first | apply Kd.R_alloc | apply Kd.R_drewN | apply Kd.R_drew)); exact HO_13.out) hb); have n4_ := Aside0.mk (Kd.R_below (by (with_reducible repeat (first | apply Kd.R_alloc | apply Kd.R_drewN | apply Kd.R_drew)); exact HO275.out) hb); have n5_ := Aside0.mk (below_step (by repeat (first | (with_reducible first | exact HB.out | apply below_alloc | apply pw_below_drewN | apply below_drew1) | exact HB.out)) hb); clear HO_8; clear HO_11; clear HO_12; clear HO_13; clear HO275; clear HB; have HO_8 := n0_; have HO_11 := n1_; have HO_12 := n2_; have HO_13 := n3_; have HO275 := n4_; have HB := n5_; clear n0_ n1_ n2_ n3_ n4_ n5_; (try clear hb); (try clear hb2); (try clear hk); (try clear hi)) | ((with_reducible refine gate_callee (f := 32) rfl ?_); refine goesL_ (some 73) rfl rfl Try.func32 (by kernel_rfl) rfl #[.slice A2 l2.length c2] rfl (by (try simp only [List.map_toArray, List.map_cons, List.map_nil]); first | done | (go_simp; done) | rfl | (simp only [List.length_drop, List.length_take]; rfl)) ?_; (with_reducible refine (laws_toInt64S.calls kj12 _ _ l2 t277 _ ?side1 ?side2 A40.out).mono ?_); (case side1 => repeat (first | exact (Kd.C_below HR2.out HB.out) | (with_reducible refine Kd.C_alloc ?_ _) | (with_reducible refine Kd.C_drewN ?_ _) | (with_reducible refine Kd.C_drew ?_))); (case side2 => exact HC2.out); rintro e w49 ⟨v278, rfl, ho0, hb⟩; refine ⟨_, rfl, ?_⟩; have n0_ := Aside0.mk (Kd.R_below (by (with_reducible repeat (first | apply Kd.R_alloc | apply Kd.R_drewN | apply Kd.R_drew)); exact HO_8.out) hb); have n1_ := Aside0.mk (Kd.R_below (by (with_reducible repeat (first | apply Kd.R_alloc | apply Kd.R_drewN | apply Kd.R_drew)); exact HO_11.out) hb); have n2_ := Aside0.mk (Kd.R_elder' (by (with_reducible repeat (first | apply Kd.R_alloc | apply Kd.R_drewN | apply Kd.R_drew)); exact HO_12.out) (Kd.R_base ho0) hb); have n3_ := Aside0.mk (Kd.R_below (by (with_reducible repeat (first | apply Kd.R_alloc | apply Kd.R_drewN | apply Kd.R_drew)); exact HO_13.out) hb); have n4_ := Aside0.mk (Kd.R_below (by (with_reducible repeat (first | apply Kd.R_alloc | apply Kd.R_drewN | apply Kd.R_drew)); exact HO275.out) hb); have n5_ := Aside0.mk (Kd.R_lower (Kd.R_new' ho0 (Kd.R_lt (by (with_reducible repeat (first | apply Kd.R_alloc | apply Kd.R_drewN | apply Kd.R_drew)); exact HO_12.out))) (below_size (by repeat (first | (with_reducible first | exact HB.out | apply below_alloc | apply pw_below_drewN | apply below_drew1) | exact HB.out)))); have n6_ := Aside0.mk (below_step (by repeat (first | (with_reducible first | exact HB.out | apply below_alloc | apply pw_below_drewN | apply below_drew1) | exact HB.out)) hb); clear HO_8; clear HO_11; clear HO_12; clear HO_13; clear HO275; clear HB; have HO_8 := n0_; have HO_11 := n1_; have HO_12 := n2_; have HO_13 := n3_; have HO275 := n4_; have HO279 := n5_; have HB := n6_; clear n0_ n1_ n2_ n3_ n4_ n5_ n6_; (try clear hb); (try clear hb2); (try clear hk); (try clear hi); (try clear ho0); obtain ⟨Ao50, co50, eo50⟩ := Kd.R_slice HO279.out; subst eo50) | ((with_reducible refine gate_callee (f := 28) rfl ?_); refine goesL_ (some 74) rfl rfl Try.func28 (by kernel_rfl) rfl #[.slice Ao22 t264.length co22, .slice Ao50 t277.length co50] rfl (by (try simp only [List.map_toArray, List.map_cons, List.map_nil]); first | done | (go_simp; done) | rfl | (simp only [List.length_drop, List.length_take]; rfl)) ?_; (with_reducible refine (laws_eqInt64S.calls kj12 _ _ t264 _ _ t277 true _ ?side1 ?side2 ?side3 ?side4 A41.out).mono ?_); (case side1 => repeat (first | exact (Kd.R_reads' HO_12.out).2.2 | (with_reducible refine Kd.C_alloc ?_ _) | (with_reducible refine Kd.C_drewN ?_ _) | (with_reducible refine Kd.C_drew ?_))); (case side2 => exact (Kd.R_reads' HO_12.out).2.1); (case side3 => repeat (first | exact (Kd.R_reads' HO279.out).2.2 | (with_reducible refine Kd.C_alloc ?_ _) | (with_reducible refine Kd.C_drewN ?_ _) | (with_reducible refine Kd.C_drew ?_))); (case side4 => exact (Kd.R_reads' HO279.out).2.1); rintro e w' ⟨rfl, ⟨nd, rfl⟩⟩; refine ⟨_, rfl, ?_⟩) | ((with_reducible refine gate_callee (f := 22) rfl ?_); refine goesL_ (some 78) rfl rfl Try.func22 (by kernel_rfl) rfl #[.slice Ao21 t261.length co21, .int .i64 1] rfl (by (try simp only [List.map_toArray, List.map_cons, List.map_nil]); first | done | (go_simp; done) | rfl | (simp only [List.length_drop, List.length_take]; rfl)) ?_; (with_reducible refine (laws_markDebtS.calls kj12 (fun k_ => some k_ = (.slice Ao21 t261.length co21 : Value).ownBlock) (.slice Ao21 t261.length co21) t261 1 t281 t282 w _ ?side1 ?side2 A43.out).mono ?_); (case side1 => repeat (first | (with_reducible first | exact HB.out | apply below_alloc | apply pw_below_drewN | apply below_drew1) | exact HB.out)); (case side2 => exact Kd.R_tight rfl HO_11.out); rintro e w51 ⟨rfl, hy0, hb, hkp⟩; refine ⟨_, rfl, ?_⟩; have n0_ := Aside0.mk (Kd.R_mono (ok' := fun k_ => some k_ ≠ (.slice Ao21 t261.length co21 : Value).ownBlock ∧ some k_ ≠ (v270 : Value).ownBlock ∧ some k_ ≠ (.slice Ao47 t273.length co47 : Value).ownBlock) (Kd.R_keptB (HO_8.out) hkp (fun k_ hk_ hs_ => (hk_.1.1) hs_)) (fun k_ hk_ => ⟨hk_.1.1.1, hk_.1.1.2, hk_.1.2⟩)); have n1_ := Aside0.mk (Kd.R_reok rfl hy0 (fun k_ e_ => HO_11.out.1 k_ e_)); have n2_ := Aside0.mk (Kd.R_mono (ok' := fun k_ => some k_ ≠ (.slice Ao50 t277.length co50 : Value).ownBlock) (Kd.R_keptB ((Kd.R_apart' HO_12.out (Kd.R_typed HO_11.out) (by decide))) hkp (fun k_ hk_ hs_ => (hk_.2) hs_)) (fun k_ hk_ => hk_.1.1.2)); have n3_ := Aside0.mk (Kd.R_mono (ok' := fun k_ => some k_ ≠ (v259 : Value).ownBlock ∧ some k_ ≠ (.slice Ao21 t261.length co21 : Value).ownBlock ∧ some k_ ≠ (.slice Ao47 t273.length co47 : Value).ownBlock) (Kd.R_keptB (HO_13.out) hkp (fun k_ hk_ hs_ => (hk_.1.2) hs_)) (fun k_ hk_ => ⟨hk_.1.1.1, hk_.1.1.2, hk_.1.2⟩)); have n4_ := Aside0.mk (Kd.R_mono (ok' := fun k_ => some k_ ≠ (v259 : Value).ownBlock ∧ some k_ ≠ (.slice Ao21 t261.length co21 : Value).ownBlock ∧ some k_ ≠ (v270 : Value).ownBlock) (Kd.R_keptB (HO275.out) hkp (fun k_ hk_ hs_ => (hk_.1.2) hs_)) (fun k_ hk_ => ⟨hk_.1.1.1.2, hk_.1.1.2, hk_.1.2⟩)); have n5_ := Aside0.mk (Kd.R_mono (ok' := fun k_ => some k_ ≠ (.slice Ao22 t264.length co22 : Value).ownBlock) (Kd.R_keptB ((Kd.R_apart' HO279.out (Kd.R_typed HO_11.out) (by decide))) hkp (fun k_ hk_ hs_ => (hk_.2) hs_)) (fun k_ hk_ => hk_.1.1.2)); have n6_ := Aside0.mk (hb); clear HO_8; clear HO_11; clear HO_12; clear HO_13; clear HO275; clear HO279; clear HB; have HO_8 := n0_; have HO_11 := n1_; have HO_12 := n2_; have HO_13 := n3_; have HO275 := n4_; have HO279 := n5_; have HB := n6_; clear n0_ n1_ n2_ n3_ n4_ n5_ n6_; (try clear hb); (try clear hkp); (try clear hy0)) | ((with_reducible refine gate_callee (f := 29) rfl ?_); refine goesL_ (some 81) rfl rfl Try.func29 (by kernel_rfl) rfl #[.slice Ao22 t264.length co22, .int .i64 t281] rfl (by (try simp only [List.map_toArray, List.map_cons, List.map_nil]); first | done | (go_simp; done) | rfl | (simp only [List.length_drop, List.length_take]; rfl)) ?_; (with_reducible refine (laws_markInt64S.calls kj12 (fun k_ => some k_ = (.slice Ao22 t264.length co22 : Value).ownBlock) (.slice Ao22 t264.length co22) t264 t281 t283 t284 w _ ?side1 ?side2 A44.out).mono ?_); (case side1 => repeat (first | (with_reducible first | exact HB.out | apply below_alloc | apply pw_below_drewN | apply below_drew1) | exact HB.out)); (case side2 => exact Kd.R_tight rfl HO_12.out); rintro e w52 ⟨rfl, hy0, hb, hkp⟩; refine ⟨_, rfl, ?_⟩; have n0_ := Aside0.mk (Kd.R_mono (ok' := fun k_ => some k_ ≠ (.slice Ao21 t261.length co21 : Value).ownBlock ∧ some k_ ≠ (v270 : Value).ownBlock ∧ some k_ ≠ (.slice Ao47 t273.length co47 : Value).ownBlock) (Kd.R_keptB ((Kd.R_apart' HO_8.out (Kd.R_typed HO_12.out) (by decide))) hkp (fun k_ hk_ hs_ => (hk_.2) hs_)) (fun k_ hk_ => ⟨hk_.1.1.1, hk_.1.1.2.1, hk_.1.1.2.2⟩)); have n1_ := Aside0.mk (Kd.R_mono (ok' := fun k_ => some k_ ≠ (v259 : Value).ownBlock ∧ some k_ ≠ (v270 : Value).ownBlock ∧ some k_ ≠ (.slice Ao47 t273.length co47 : Value).ownBlock) (Kd.R_keptB ((Kd.R_apart' HO_11.out (Kd.R_typed HO_12.out) (by decide))) hkp (fun k_ hk_ hs_ => (hk_.2) hs_)) (fun k_ hk_ => ⟨hk_.1.1.1.1, hk_.1.1.1.2, hk_.1.1.2⟩)); have n2_ := Aside0.mk (Kd.R_reok rfl hy0 (fun k_ e_ => HO_12.out.1 k_ e_)); have n3_ := Aside0.mk (Kd.R_mono (ok' := fun k_ => some k_ ≠ (v259 : Value).ownBlock ∧ some k_ ≠ (.slice Ao21 t261.length co21 : Value).ownBlock ∧ some k_ ≠ (.slice Ao47 t273.length co47 : Value).ownBlock) (Kd.R_keptB ((Kd.R_apart' HO_13.out (Kd.R_typed HO_12.out) (by decide))) hkp (fun k_ hk_ hs_ => (hk_.2) hs_)) (fun k_ hk_ => ⟨hk_.1.1.1, hk_.1.1.2.1, hk_.1.1.2.2⟩)); have n4_ := Aside0.mk (Kd.R_mono (ok' := fun k_ => some k_ ≠ (v259 : Value).ownBlock ∧ some k_ ≠ (.slice Ao21 t261.length co21 : Value).ownBlock ∧ some k_ ≠ (v270 : Value).ownBlock) (Kd.R_keptB ((Kd.R_apart' HO275.out (Kd.R_typed HO_12.out) (by decide))) hkp (fun k_ hk_ hs_ => (hk_.2) hs_)) (fun k_ hk_ => ⟨hk_.1.1.1, hk_.1.1.2.1, hk_.1.1.2.2⟩)); have n5_ := Aside0.mk (Kd.R_mono (ok' := fun k_ => some k_ ≠ (.slice Ao22 t264.length co22 : Value).ownBlock) (Kd.R_keptB (HO279.out) hkp (fun k_ hk_ hs_ => (hk_) hs_)) (fun k_ hk_ => hk_.1)); have n6_ := Aside0.mk (hb); clear HO_8; clear HO_11; clear HO_12; clear HO_13; clear HO275; clear HO279; clear HB; have HO_8 := n0_; have HO_11 := n1_; have HO_12 := n2_; have HO_13 := n3_; have HO275 := n4_; have HO279 := n5_; have HB := n6_; clear n0_ n1_ n2_ n3_ n4_ n5_ n6_; (try clear hb); (try clear hkp); (try clear hy0)))
                (try simp only [Act.put, List.setIfInBounds_toArray, List.set_cons_zero, List.set_cons_succ])
                go_cut [99] (fun v99 wc => ∃ (kq : Nat) (x99_44 : Bool), v99 = .bool x99_44 ∧ Aside0 (laws_FnExactCancelCircle.j1 kq a0 l1 l2 t256 t257 t258 t267 x99_44 = some r) ∧ Aside0 (kq ≤ kj12) ∧ Aside0 (Kd.R k65 65 wc w.heap.size (fun k_ => some k_ ≠ (v270 : Value).ownBlock) v259 t256) ∧ Aside0 (Kd.R k65 65 wc w.heap.size (fun k_ => some k_ ≠ (v259 : Value).ownBlock) v270 t267) ∧ Aside0 (Below w.heap.size w wc))
                case first =>
                  have H := HC45.out
                  clear HC45
                  by_cases c53 : t283 < 0
                  · rw [if_pos c53] at H
                    have c53b0 : decide (t283 < 0) = true := decide_eq_true c53
                    clear c53
                    (first | rw [c53b0] | (simp only [i64_w, i32_w]; rw [c53b0]) | skip)
                    have H' := Aside0.mk H
                    clear H
                    go_wp2
                    go_meet
                    case rel => exact ⟨_, (true), (by first | rfl | (simp; done) | (simp [*]; done)), H', ⟨by have := HJ12.out; first | omega | exact Nat.le_refl _⟩, ⟨by (with_reducible repeat (first | apply Kd.R_alloc | apply Kd.R_drewN | apply Kd.R_drew)); exact Kd.R_mono HO_8.out (fun _ hk => hk.2.1)⟩, ⟨by (with_reducible repeat (first | apply Kd.R_alloc | apply Kd.R_drewN | apply Kd.R_drew)); exact Kd.R_mono HO_13.out (fun _ hk => hk.1)⟩, ⟨by repeat (first | (with_reducible first | exact HB.out | apply below_alloc | apply pw_below_drewN | apply below_drew1) | exact HB.out)⟩⟩
                  · rw [if_neg c53] at H
                    have c53b0 : decide (t283 < 0) = false := decide_eq_false c53
                    clear c53
                    (first | rw [c53b0] | (simp only [i64_w, i32_w]; rw [c53b0]) | skip)
                    replace H := Option.bind_eq_some_iff.mp H
                    obtain ⟨t285, A540, H⟩ := H
                    replace H : (if t285 = true then (if t268 = t257 then (laws_FnExactCancelCircle.j1 kj12 a0 l1 l2 t256 t257 t258 t267 (t269 != t258)) else (laws_FnExactCancelCircle.j1 kj12 a0 l1 l2 t256 t257 t258 t267 true)) else (laws_FnExactCancelCircle.j1 kj12 a0 l1 l2 t256 t257 t258 t267 true)) = some r := H
                    have A54 := Aside0.mk A540
                    clear A540
                    by_cases c55 : t285 = true
                    · subst c55
                      have H1 : (if t268 = t257 then (laws_FnExactCancelCircle.j1 kj12 a0 l1 l2 t256 t257 t258 t267 (t269 != t258)) else (laws_FnExactCancelCircle.j1 kj12 a0 l1 l2 t256 t257 t258 t267 true)) = some r := by rw [if_pos rfl] at H; exact H
                      clear H
                      have H := H1
                      clear H1
                      by_cases c56 : t268 = t257
                      · rw [if_pos c56] at H
                        have c56b0 : (t268 == t257) = true := beq_iff_eq.mpr c56
                        have c56b1 : (t268 != t257) = false := bne_eq_false_iff_eq.mpr c56
                        clear c56
                        have H' := Aside0.mk H
                        clear H
                        obtain ⟨Ao57, co57, eo57⟩ := Kd.R_slice HO_13.out
                        subst eo57
                        obtain ⟨Ao58, co58, eo58⟩ := Kd.R_slice HO_8.out
                        subst eo58
                        go_wp2_with (first | (go_at_call 19; (with_reducible refine (laws_eqDebtS.calls kj12 _ _ t267 _ _ t256 true _ ?side1 ?side2 ?side3 ?side4 A54.out).mono ?_); (case side1 => repeat (first | exact (Kd.R_reads' HO_13.out).2.2 | (with_reducible refine Kd.C_alloc ?_ _) | (with_reducible refine Kd.C_drewN ?_ _) | (with_reducible refine Kd.C_drew ?_))); (case side2 => exact (Kd.R_reads' HO_13.out).2.1); (case side3 => repeat (first | exact (Kd.R_reads' HO_8.out).2.2 | (with_reducible refine Kd.C_alloc ?_ _) | (with_reducible refine Kd.C_drewN ?_ _) | (with_reducible refine Kd.C_drew ?_))); (case side4 => exact (Kd.R_reads' HO_8.out).2.1); rintro e w59 ⟨rfl, hb⟩; have n0_ := Aside0.mk (Kd.R_below (by (with_reducible repeat (first | apply Kd.R_alloc | apply Kd.R_drewN | apply Kd.R_drew)); exact HO_8.out) hb); have n1_ := Aside0.mk (Kd.R_below (by (with_reducible repeat (first | apply Kd.R_alloc | apply Kd.R_drewN | apply Kd.R_drew)); exact HO_11.out) hb); have n2_ := Aside0.mk (Kd.R_below (by (with_reducible repeat (first | apply Kd.R_alloc | apply Kd.R_drewN | apply Kd.R_drew)); exact HO_12.out) hb); have n3_ := Aside0.mk (Kd.R_below (by (with_reducible repeat (first | apply Kd.R_alloc | apply Kd.R_drewN | apply Kd.R_drew)); exact HO_13.out) hb); have n4_ := Aside0.mk (Kd.R_below (by (with_reducible repeat (first | apply Kd.R_alloc | apply Kd.R_drewN | apply Kd.R_drew)); exact HO275.out) hb); have n5_ := Aside0.mk (Kd.R_below (by (with_reducible repeat (first | apply Kd.R_alloc | apply Kd.R_drewN | apply Kd.R_drew)); exact HO279.out) hb); have n6_ := Aside0.mk (below_step (by repeat (first | (with_reducible first | exact HB.out | apply below_alloc | apply pw_below_drewN | apply below_drew1) | exact HB.out)) hb); clear HO_8; clear HO_11; clear HO_12; clear HO_13; clear HO275; clear HO279; clear HB; have HO_8 := n0_; have HO_11 := n1_; have HO_12 := n2_; have HO_13 := n3_; have HO275 := n4_; have HO279 := n5_; have HB := n6_; clear n0_ n1_ n2_ n3_ n4_ n5_ n6_; (try clear hb); (try clear hb2); (try clear hk); (try clear hi)))
                        go_meet
                        case rel => exact ⟨_, ((t269 != t258)), (by first | rfl | (simp; done) | (simp [*]; done)), H', ⟨by have := HJ12.out; first | omega | exact Nat.le_refl _⟩, ⟨by (with_reducible repeat (first | apply Kd.R_alloc | apply Kd.R_drewN | apply Kd.R_drew)); exact Kd.R_mono HO_8.out (fun _ hk => hk.2.1)⟩, ⟨by (with_reducible repeat (first | apply Kd.R_alloc | apply Kd.R_drewN | apply Kd.R_drew)); exact Kd.R_mono HO_13.out (fun _ hk => hk.1)⟩, ⟨by repeat (first | (with_reducible first | exact HB.out | apply below_alloc | apply pw_below_drewN | apply below_drew1) | exact HB.out)⟩⟩
                      · rw [if_neg c56] at H
                        have c56b0 : (t268 == t257) = false := beq_eq_false_iff_ne.mpr c56
                        have c56b1 : (t268 != t257) = true := bne_iff_ne.mpr c56
                        have H' := Aside0.mk H
                        clear H
                        obtain ⟨Ao60, co60, eo60⟩ := Kd.R_slice HO_13.out
                        subst eo60
                        obtain ⟨Ao61, co61, eo61⟩ := Kd.R_slice HO_8.out
                        subst eo61
                        go_wp2_with (first | (go_at_call 19; (with_reducible refine (laws_eqDebtS.calls kj12 _ _ t267 _ _ t256 true _ ?side1 ?side2 ?side3 ?side4 A54.out).mono ?_); (case side1 => repeat (first | exact (Kd.R_reads' HO_13.out).2.2 | (with_reducible refine Kd.C_alloc ?_ _) | (with_reducible refine Kd.C_drewN ?_ _) | (with_reducible refine Kd.C_drew ?_))); (case side2 => exact (Kd.R_reads' HO_13.out).2.1); (case side3 => repeat (first | exact (Kd.R_reads' HO_8.out).2.2 | (with_reducible refine Kd.C_alloc ?_ _) | (with_reducible refine Kd.C_drewN ?_ _) | (with_reducible refine Kd.C_drew ?_))); (case side4 => exact (Kd.R_reads' HO_8.out).2.1); rintro e w62 ⟨rfl, hb⟩; have n0_ := Aside0.mk (Kd.R_below (by (with_reducible repeat (first | apply Kd.R_alloc | apply Kd.R_drewN | apply Kd.R_drew)); exact HO_8.out) hb); have n1_ := Aside0.mk (Kd.R_below (by (with_reducible repeat (first | apply Kd.R_alloc | apply Kd.R_drewN | apply Kd.R_drew)); exact HO_11.out) hb); have n2_ := Aside0.mk (Kd.R_below (by (with_reducible repeat (first | apply Kd.R_alloc | apply Kd.R_drewN | apply Kd.R_drew)); exact HO_12.out) hb); have n3_ := Aside0.mk (Kd.R_below (by (with_reducible repeat (first | apply Kd.R_alloc | apply Kd.R_drewN | apply Kd.R_drew)); exact HO_13.out) hb); have n4_ := Aside0.mk (Kd.R_below (by (with_reducible repeat (first | apply Kd.R_alloc | apply Kd.R_drewN | apply Kd.R_drew)); exact HO275.out) hb); have n5_ := Aside0.mk (Kd.R_below (by (with_reducible repeat (first | apply Kd.R_alloc | apply Kd.R_drewN | apply Kd.R_drew)); exact HO279.out) hb); have n6_ := Aside0.mk (below_step (by repeat (first | (with_reducible first | exact HB.out | apply below_alloc | apply pw_below_drewN | apply below_drew1) | exact HB.out)) hb); clear HO_8; clear HO_11; clear HO_12; clear HO_13; clear HO275; clear HO279; clear HB; have HO_8 := n0_; have HO_11 := n1_; have HO_12 := n2_; have HO_13 := n3_; have HO275 := n4_; have HO279 := n5_; have HB := n6_; clear n0_ n1_ n2_ n3_ n4_ n5_ n6_; (try clear hb); (try clear hb2); (try clear hk); (try clear hi)))
                        go_meet
                        case rel => exact ⟨_, (true), (by first | rfl | (simp; done) | (simp [*]; done)), H', ⟨by have := HJ12.out; first | omega | exact Nat.le_refl _⟩, ⟨by (with_reducible repeat (first | apply Kd.R_alloc | apply Kd.R_drewN | apply Kd.R_drew)); exact Kd.R_mono HO_8.out (fun _ hk => hk.2.1)⟩, ⟨by (with_reducible repeat (first | apply Kd.R_alloc | apply Kd.R_drewN | apply Kd.R_drew)); exact Kd.R_mono HO_13.out (fun _ hk => hk.1)⟩, ⟨by repeat (first | (with_reducible first | exact HB.out | apply below_alloc | apply pw_below_drewN | apply below_drew1) | exact HB.out)⟩⟩
                    · replace c55 := Bool.eq_false_iff.mpr c55
                      subst c55
                      have H1 : (laws_FnExactCancelCircle.j1 kj12 a0 l1 l2 t256 t257 t258 t267 true) = some r := by rw [if_neg (show ¬ (false = true) by decide)] at H; exact H
                      clear H
                      have H := H1
                      clear H1
                      have H' := Aside0.mk H
                      clear H
                      obtain ⟨Ao63, co63, eo63⟩ := Kd.R_slice HO_13.out
                      subst eo63
                      obtain ⟨Ao64, co64, eo64⟩ := Kd.R_slice HO_8.out
                      subst eo64
                      go_wp2_with (first | (go_at_call 19; (with_reducible refine (laws_eqDebtS.calls kj12 _ _ t267 _ _ t256 false _ ?side1 ?side2 ?side3 ?side4 A54.out).mono ?_); (case side1 => repeat (first | exact (Kd.R_reads' HO_13.out).2.2 | (with_reducible refine Kd.C_alloc ?_ _) | (with_reducible refine Kd.C_drewN ?_ _) | (with_reducible refine Kd.C_drew ?_))); (case side2 => exact (Kd.R_reads' HO_13.out).2.1); (case side3 => repeat (first | exact (Kd.R_reads' HO_8.out).2.2 | (with_reducible refine Kd.C_alloc ?_ _) | (with_reducible refine Kd.C_drewN ?_ _) | (with_reducible refine Kd.C_drew ?_))); (case side4 => exact (Kd.R_reads' HO_8.out).2.1); rintro e w65 ⟨rfl, hb⟩; have n0_ := Aside0.mk (Kd.R_below (by (with_reducible repeat (first | apply Kd.R_alloc | apply Kd.R_drewN | apply Kd.R_drew)); exact HO_8.out) hb); have n1_ := Aside0.mk (Kd.R_below (by (with_reducible repeat (first | apply Kd.R_alloc | apply Kd.R_drewN | apply Kd.R_drew)); exact HO_11.out) hb); have n2_ := Aside0.mk (Kd.R_below (by (with_reducible repeat (first | apply Kd.R_alloc | apply Kd.R_drewN | apply Kd.R_drew)); exact HO_12.out) hb); have n3_ := Aside0.mk (Kd.R_below (by (with_reducible repeat (first | apply Kd.R_alloc | apply Kd.R_drewN | apply Kd.R_drew)); exact HO_13.out) hb); have n4_ := Aside0.mk (Kd.R_below (by (with_reducible repeat (first | apply Kd.R_alloc | apply Kd.R_drewN | apply Kd.R_drew)); exact HO275.out) hb); have n5_ := Aside0.mk (Kd.R_below (by (with_reducible repeat (first | apply Kd.R_alloc | apply Kd.R_drewN | apply Kd.R_drew)); exact HO279.out) hb); have n6_ := Aside0.mk (below_step (by repeat (first | (with_reducible first | exact HB.out | apply below_alloc | apply pw_below_drewN | apply below_drew1) | exact HB.out)) hb); clear HO_8; clear HO_11; clear HO_12; clear HO_13; clear HO275; clear HO279; clear HB; have HO_8 := n0_; have HO_11 := n1_; have HO_12 := n2_; have HO_13 := n3_; have HO275 := n4_; have HO279 := n5_; have HB := n6_; clear n0_ n1_ n2_ n3_ n4_ n5_ n6_; (try clear hb); (try clear hb2); (try clear hk); (try clear hi)))
                      go_meet
                      case rel => exact ⟨_, (true), (by first | rfl | (simp; done) | (simp [*]; done)), H', ⟨by have := HJ12.out; first | omega | exact Nat.le_refl _⟩, ⟨by (with_reducible repeat (first | apply Kd.R_alloc | apply Kd.R_drewN | apply Kd.R_drew)); exact Kd.R_mono HO_8.out (fun _ hk => hk.2.1)⟩, ⟨by (with_reducible repeat (first | apply Kd.R_alloc | apply Kd.R_drewN | apply Kd.R_drew)); exact Kd.R_mono HO_13.out (fun _ hk => hk.1)⟩, ⟨by repeat (first | (with_reducible first | exact HB.out | apply below_alloc | apply pw_below_drewN | apply below_drew1) | exact HB.out)⟩⟩
                case rest =>
                  clear HC45
                  try clear c1
                  try clear c2
                  try clear p2
                  try clear c3
                  try clear c4
                  try clear c4b0
                  try clear c4b1
                  try clear c5
                  try clear c6
                  try clear c6b0
                  try clear c7
                  try clear c15
                  try clear c17
                  try clear c19
                  try clear c22
                  try clear c25
                  try clear c26
                  try clear c26b0
                  try clear c26b1
                  try clear c28
                  try clear c29
                  try clear c31
                  try clear c32
                  try clear c33
                  try clear c36
                  try clear c39
                  try clear c42
                  try clear c53
                  try clear c53b0
                  try clear c55
                  try clear c56
                  try clear c56b0
                  try clear c56b1
                  try clear p2
                  obtain ⟨kq, x99_44, rfl, HA, HJ44, HO_8, HO_13, HB⟩ := hcut
                  cases kq with
                  | zero => exact absurd HA.out (by simp [laws_FnExactCancelCircle.j1])
                  | succ kj44 =>
                    have H := HA.out
                    clear HA
                    simp only [laws_FnExactCancelCircle.j1] at H
                    by_cases c66 : x99_44 = true
                    · subst c66
                      have H1 : (some false) = some r := by rw [if_pos rfl] at H; exact H
                      clear H
                      have H := H1
                      clear H1
                      obtain rfl := Option.some.inj H
                      cases ht
                    · replace c66 := Bool.eq_false_iff.mpr c66
                      subst c66
                      have H1 : ((laws_markDebtS.f kj44 t267 1).bind fun bt286 => ((laws_heldDebtS.f kj44 bt286.2 1).bind fun t288 => (if t288 < 0 then (some false) else (if t288 = bt286.1 then ((laws_toDebtS.f kj44 l1).bind fun t289 => ((laws_toInt64S.f kj44 l2).bind fun t292 => ((impl_CancelCircle.f kj44 a0 t289 t292).bind fun bt295 => ((laws_eqDebtS.f kj44 bt295.1 t256).bind fun t300 => (if t300 = true then (if bt295.2.1 = t257 then (laws_FnExactCancelCircle.j2 kj44 bt286.2 bt286.1 (bt295.2.2 != t258)) else (laws_FnExactCancelCircle.j2 kj44 bt286.2 bt286.1 true)) else (laws_FnExactCancelCircle.j2 kj44 bt286.2 bt286.1 true)))))) else (some false))))) = some r := by rw [if_neg (show ¬ (false = true) by decide)] at H; exact H
                      clear H
                      have H := H1
                      clear H1
                      replace H := Option.bind_eq_some_iff.mp H
                      obtain ⟨⟨t286, t287⟩, A670, H⟩ := H
                      replace H : ((laws_heldDebtS.f kj44 t287 1).bind fun t288 => (if t288 < 0 then (some false) else (if t288 = t286 then ((laws_toDebtS.f kj44 l1).bind fun t289 => ((laws_toInt64S.f kj44 l2).bind fun t292 => ((impl_CancelCircle.f kj44 a0 t289 t292).bind fun bt295 => ((laws_eqDebtS.f kj44 bt295.1 t256).bind fun t300 => (if t300 = true then (if bt295.2.1 = t257 then (laws_FnExactCancelCircle.j2 kj44 t287 t286 (bt295.2.2 != t258)) else (laws_FnExactCancelCircle.j2 kj44 t287 t286 true)) else (laws_FnExactCancelCircle.j2 kj44 t287 t286 true)))))) else (some false)))) = some r := H
                      have A67 := Aside0.mk A670
                      clear A670
                      replace H := Option.bind_eq_some_iff.mp H
                      obtain ⟨t288, A680, H⟩ := H
                      replace H : (if t288 < 0 then (some false) else (if t288 = t286 then ((laws_toDebtS.f kj44 l1).bind fun t289 => ((laws_toInt64S.f kj44 l2).bind fun t292 => ((impl_CancelCircle.f kj44 a0 t289 t292).bind fun bt295 => ((laws_eqDebtS.f kj44 bt295.1 t256).bind fun t300 => (if t300 = true then (if bt295.2.1 = t257 then (laws_FnExactCancelCircle.j2 kj44 t287 t286 (bt295.2.2 != t258)) else (laws_FnExactCancelCircle.j2 kj44 t287 t286 true)) else (laws_FnExactCancelCircle.j2 kj44 t287 t286 true)))))) else (some false))) = some r := H
                      have A68 := Aside0.mk A680
                      clear A680
                      by_cases c69 : t288 < 0
                      · rw [if_pos c69] at H
                        have c69b0 : decide (t288 < 0) = true := decide_eq_true c69
                        clear c69
                        obtain rfl := Option.some.inj H
                        cases ht
                      · rw [if_neg c69] at H
                        have c69b0 : decide (t288 < 0) = false := decide_eq_false c69
                        clear c69
                        by_cases c70 : t288 = t286
                        · rw [if_pos c70] at H
                          have c70b0 : (t288 == t286) = true := beq_iff_eq.mpr c70
                          have c70b1 : (t288 != t286) = false := bne_eq_false_iff_eq.mpr c70
                          clear c70
                          replace H := Option.bind_eq_some_iff.mp H
                          obtain ⟨t289, A710, H⟩ := H
                          replace H : ((laws_toInt64S.f kj44 l2).bind fun t292 => ((impl_CancelCircle.f kj44 a0 t289 t292).bind fun bt295 => ((laws_eqDebtS.f kj44 bt295.1 t256).bind fun t300 => (if t300 = true then (if bt295.2.1 = t257 then (laws_FnExactCancelCircle.j2 kj44 t287 t286 (bt295.2.2 != t258)) else (laws_FnExactCancelCircle.j2 kj44 t287 t286 true)) else (laws_FnExactCancelCircle.j2 kj44 t287 t286 true))))) = some r := H
                          have A71 := Aside0.mk A710
                          clear A710
                          replace H := Option.bind_eq_some_iff.mp H
                          obtain ⟨t292, A720, H⟩ := H
                          replace H : ((impl_CancelCircle.f kj44 a0 t289 t292).bind fun bt295 => ((laws_eqDebtS.f kj44 bt295.1 t256).bind fun t300 => (if t300 = true then (if bt295.2.1 = t257 then (laws_FnExactCancelCircle.j2 kj44 t287 t286 (bt295.2.2 != t258)) else (laws_FnExactCancelCircle.j2 kj44 t287 t286 true)) else (laws_FnExactCancelCircle.j2 kj44 t287 t286 true)))) = some r := H
                          have A72 := Aside0.mk A720
                          clear A720
                          replace H := Option.bind_eq_some_iff.mp H
                          obtain ⟨⟨t295, t296, t297⟩, A730, H⟩ := H
                          replace H : ((laws_eqDebtS.f kj44 t295 t256).bind fun t300 => (if t300 = true then (if t296 = t257 then (laws_FnExactCancelCircle.j2 kj44 t287 t286 (t297 != t258)) else (laws_FnExactCancelCircle.j2 kj44 t287 t286 true)) else (laws_FnExactCancelCircle.j2 kj44 t287 t286 true))) = some r := H
                          have A73 := Aside0.mk A730
                          clear A730
                          have HC74 := Aside0.mk H
                          clear H
                          obtain ⟨Ao75, co75, eo75⟩ := Kd.R_slice HO_13.out
                          subst eo75
                          go_upto_region 31 with (first | ((with_reducible refine gate_callee (f := 22) rfl ?_); refine goesL_ (some 102) rfl rfl Try.func22 (by kernel_rfl) rfl #[.slice Ao75 t267.length co75, .int .i64 1] rfl (by (try simp only [List.map_toArray, List.map_cons, List.map_nil]); first | done | (go_simp; done) | rfl | (simp only [List.length_drop, List.length_take]; rfl)) ?_; (with_reducible refine (laws_markDebtS.calls kj44 (fun k_ => some k_ = (.slice Ao75 t267.length co75 : Value).ownBlock) (.slice Ao75 t267.length co75) t267 1 t286 t287 w _ ?side1 ?side2 A67.out).mono ?_); (case side1 => repeat (first | (with_reducible first | exact HB.out | apply below_alloc | apply pw_below_drewN | apply below_drew1) | exact HB.out)); (case side2 => exact Kd.R_tight rfl HO_13.out); rintro e w76 ⟨rfl, hy0, hb, hkp⟩; refine ⟨_, rfl, ?_⟩; have n0_ := Aside0.mk (Kd.R_mono (ok' := fun k_ => some k_ ≠ (.slice Ao75 t267.length co75 : Value).ownBlock) (Kd.R_keptB (HO_8.out) hkp (fun k_ hk_ hs_ => (hk_) hs_)) (fun k_ hk_ => hk_.1)); have n1_ := Aside0.mk (Kd.R_reok rfl hy0 (fun k_ e_ => HO_13.out.1 k_ e_)); have n2_ := Aside0.mk (hb); clear HO_8; clear HO_13; clear HB; have HO_8 := n0_; have HO_13 := n1_; have HB := n2_; clear n0_ n1_ n2_; (try clear hb); (try clear hkp); (try clear hy0)) | ((with_reducible refine gate_callee (f := 23) rfl ?_); refine goesL_ (some 105) rfl rfl Try.func23 (by kernel_rfl) rfl #[.slice Ao75 t287.length co75, .int .i64 1] rfl (by (try simp only [List.map_toArray, List.map_cons, List.map_nil]); first | done | (rw [show t287.length = t267.length from (Kd.R_reads' HO_13.out).1.symm] <;> rfl) | (go_simp; done) | rfl | (simp only [List.length_drop, List.length_take]; rfl)) ?_; (with_reducible refine (laws_heldDebtS.calls kj44 _ _ t287 1 t288 _ ?side1 ?side2 A68.out).mono ?_); (case side1 => repeat (first | exact (Kd.R_reads' HO_13.out).2.2 | (with_reducible refine Kd.C_alloc ?_ _) | (with_reducible refine Kd.C_drewN ?_ _) | (with_reducible refine Kd.C_drew ?_))); (case side2 => rw [show t287.length = t267.length from (Kd.R_reads' HO_13.out).1.symm]; exact (Kd.R_reads' HO_13.out).2.1); rintro e w' ⟨rfl, ⟨nd, rfl⟩⟩; refine ⟨_, rfl, ?_⟩) | ((with_reducible refine gate_callee (f := 17) rfl ?_); refine goesL_ (some 114) rfl rfl Try.func17 (by kernel_rfl) rfl #[.slice A1 l1.length c1] rfl (by (try simp only [List.map_toArray, List.map_cons, List.map_nil]); first | done | (go_simp; done) | rfl | (simp only [List.length_drop, List.length_take]; rfl)) ?_; (with_reducible refine (laws_toDebtS.calls kj44 _ _ l1 t289 _ ?side1 ?side2 A71.out).mono ?_); (case side1 => repeat (first | exact (Kd.C_below HR1.out (by repeat (first | (with_reducible first | exact HB.out | apply below_alloc | apply pw_below_drewN | apply below_drew1) | exact HB.out))) | (with_reducible refine Kd.C_alloc ?_ _) | (with_reducible refine Kd.C_drewN ?_ _) | (with_reducible refine Kd.C_drew ?_))); (case side2 => exact HC1.out); rintro e w77 ⟨v290, rfl, ho0, hb⟩; refine ⟨_, rfl, ?_⟩; have n0_ := Aside0.mk (Kd.R_elder' (by (with_reducible repeat (first | apply Kd.R_alloc | apply Kd.R_drewN | apply Kd.R_drew)); exact HO_8.out) (Kd.R_base ho0) hb); have n1_ := Aside0.mk (Kd.R_elder' (by (with_reducible repeat (first | apply Kd.R_alloc | apply Kd.R_drewN | apply Kd.R_drew)); exact HO_13.out) (Kd.R_base ho0) hb); have n2_ := Aside0.mk (Kd.R_lower (Kd.R_new' (Kd.R_new' ho0 (Kd.R_lt (by (with_reducible repeat (first | apply Kd.R_alloc | apply Kd.R_drewN | apply Kd.R_drew)); exact HO_8.out))) (Kd.R_lt (by (with_reducible repeat (first | apply Kd.R_alloc | apply Kd.R_drewN | apply Kd.R_drew)); exact HO_13.out))) (below_size (by repeat (first | (with_reducible first | exact HB.out | apply below_alloc | apply pw_below_drewN | apply below_drew1) | exact HB.out)))); have n3_ := Aside0.mk (below_step (by repeat (first | (with_reducible first | exact HB.out | apply below_alloc | apply pw_below_drewN | apply below_drew1) | exact HB.out)) hb); clear HO_8; clear HO_13; clear HB; have HO_8 := n0_; have HO_13 := n1_; have HO291 := n2_; have HB := n3_; clear n0_ n1_ n2_ n3_; (try clear hb); (try clear hb2); (try clear hk); (try clear hi); (try clear ho0)) | ((with_reducible refine gate_callee (f := 32) rfl ?_); refine goesL_ (some 116) rfl rfl Try.func32 (by kernel_rfl) rfl #[.slice A2 l2.length c2] rfl (by (try simp only [List.map_toArray, List.map_cons, List.map_nil]); first | done | (go_simp; done) | rfl | (simp only [List.length_drop, List.length_take]; rfl)) ?_; (with_reducible refine (laws_toInt64S.calls kj44 _ _ l2 t292 _ ?side1 ?side2 A72.out).mono ?_); (case side1 => repeat (first | exact (Kd.C_below HR2.out HB.out) | (with_reducible refine Kd.C_alloc ?_ _) | (with_reducible refine Kd.C_drewN ?_ _) | (with_reducible refine Kd.C_drew ?_))); (case side2 => exact HC2.out); rintro e w78 ⟨v293, rfl, ho0, hb⟩; refine ⟨_, rfl, ?_⟩; have n0_ := Aside0.mk (Kd.R_below (by (with_reducible repeat (first | apply Kd.R_alloc | apply Kd.R_drewN | apply Kd.R_drew)); exact HO_8.out) hb); have n1_ := Aside0.mk (Kd.R_below (by (with_reducible repeat (first | apply Kd.R_alloc | apply Kd.R_drewN | apply Kd.R_drew)); exact HO_13.out) hb); have n2_ := Aside0.mk (Kd.R_below (by (with_reducible repeat (first | apply Kd.R_alloc | apply Kd.R_drewN | apply Kd.R_drew)); exact HO291.out) hb); have n3_ := Aside0.mk (Kd.R_lower ho0 (below_size (by repeat (first | (with_reducible first | exact HB.out | apply below_alloc | apply pw_below_drewN | apply below_drew1) | exact HB.out)))); have n4_ := Aside0.mk (below_step (by repeat (first | (with_reducible first | exact HB.out | apply below_alloc | apply pw_below_drewN | apply below_drew1) | exact HB.out)) hb); clear HO_8; clear HO_13; clear HO291; clear HB; have HO_8 := n0_; have HO_13 := n1_; have HO291 := n2_; have HO294 := n3_; have HB := n4_; clear n0_ n1_ n2_ n3_ n4_; (try clear hb); (try clear hb2); (try clear hk); (try clear hi); (try clear ho0); obtain ⟨Ao79, co79, eo79⟩ := Kd.R_slice HO291.out; subst eo79; obtain ⟨Ao80, co80, eo80⟩ := Kd.R_slice HO294.out; subst eo80) | ((with_reducible refine gate_callee (f := 33) rfl ?_); refine goesL_ (some 117) rfl rfl Try.func33 (by kernel_rfl) rfl #[.int .i64 a0, .slice Ao79 t289.length co79, .slice Ao80 t292.length co80] rfl (by (try simp only [List.map_toArray, List.map_cons, List.map_nil]); first | done | (go_simp; done) | rfl | (simp only [List.length_drop, List.length_take]; rfl)) ?_; (with_reducible refine (impl_CancelCircle.calls kj44 a0 _ _ t289 _ _ t292 t295 t296 t297 _ ?side1 ?side2 ?side3 ?side4 A73.out).mono ?_); (case side1 => repeat (first | exact (Kd.R_reads' HO291.out).2.2 | (with_reducible refine Kd.C_alloc ?_ _) | (with_reducible refine Kd.C_drewN ?_ _) | (with_reducible refine Kd.C_drew ?_))); (case side2 => exact (Kd.R_reads' HO291.out).2.1); (case side3 => repeat (first | exact (Kd.R_reads' HO294.out).2.2 | (with_reducible refine Kd.C_alloc ?_ _) | (with_reducible refine Kd.C_drewN ?_ _) | (with_reducible refine Kd.C_drew ?_))); (case side4 => exact (Kd.R_reads' HO294.out).2.1); rintro e w81 ⟨v298, rfl, ho0, hb⟩; refine ⟨_, rfl, ?_⟩; have n0_ := Aside0.mk (Kd.R_elder' (by (with_reducible repeat (first | apply Kd.R_alloc | apply Kd.R_drewN | apply Kd.R_drew)); exact HO_8.out) (Kd.R_base ho0) hb); have n1_ := Aside0.mk (Kd.R_elder' (by (with_reducible repeat (first | apply Kd.R_alloc | apply Kd.R_drewN | apply Kd.R_drew)); exact HO_13.out) (Kd.R_base ho0) hb); have n2_ := Aside0.mk (Kd.R_elder' (by (with_reducible repeat (first | apply Kd.R_alloc | apply Kd.R_drewN | apply Kd.R_drew)); exact HO291.out) (Kd.R_base ho0) hb); have n3_ := Aside0.mk (Kd.R_below (by (with_reducible repeat (first | apply Kd.R_alloc | apply Kd.R_drewN | apply Kd.R_drew)); exact HO294.out) hb); have n4_ := Aside0.mk (Kd.R_lower (Kd.R_new' (Kd.R_new' (Kd.R_new' ho0 (Kd.R_lt (by (with_reducible repeat (first | apply Kd.R_alloc | apply Kd.R_drewN | apply Kd.R_drew)); exact HO_8.out))) (Kd.R_lt (by (with_reducible repeat (first | apply Kd.R_alloc | apply Kd.R_drewN | apply Kd.R_drew)); exact HO_13.out))) (Kd.R_lt (by (with_reducible repeat (first | apply Kd.R_alloc | apply Kd.R_drewN | apply Kd.R_drew)); exact HO291.out))) (below_size (by repeat (first | (with_reducible first | exact HB.out | apply below_alloc | apply pw_below_drewN | apply below_drew1) | exact HB.out)))); have n5_ := Aside0.mk (below_step (by repeat (first | (with_reducible first | exact HB.out | apply below_alloc | apply pw_below_drewN | apply below_drew1) | exact HB.out)) hb); clear HO_8; clear HO_13; clear HO291; clear HO294; clear HB; have HO_8 := n0_; have HO_13 := n1_; have HO291 := n2_; have HO294 := n3_; have HO299 := n4_; have HB := n5_; clear n0_ n1_ n2_ n3_ n4_ n5_; (try clear hb); (try clear hb2); (try clear hk); (try clear hi); (try clear ho0)))
                          (try simp only [Act.put, List.setIfInBounds_toArray, List.set_cons_zero, List.set_cons_succ])
                          go_cut [134] (fun v134 wc => ∃ (kq : Nat) (x134_73 : Bool), v134 = .bool x134_73 ∧ Aside0 (laws_FnExactCancelCircle.j2 kq t287 t286 x134_73 = some r) ∧ Aside0 (kq ≤ kj44) ∧ Aside0 (Kd.R k65 65 wc w.heap.size (fun _ => True) (.slice Ao75 t267.length co75) t287) ∧ Aside0 (Below w.heap.size w wc))
                          case first =>
                            have H := HC74.out
                            clear HC74
                            replace H := Option.bind_eq_some_iff.mp H
                            obtain ⟨t300, A820, H⟩ := H
                            replace H : (if t300 = true then (if t296 = t257 then (laws_FnExactCancelCircle.j2 kj44 t287 t286 (t297 != t258)) else (laws_FnExactCancelCircle.j2 kj44 t287 t286 true)) else (laws_FnExactCancelCircle.j2 kj44 t287 t286 true)) = some r := H
                            have A82 := Aside0.mk A820
                            clear A820
                            by_cases c83 : t300 = true
                            · subst c83
                              have H1 : (if t296 = t257 then (laws_FnExactCancelCircle.j2 kj44 t287 t286 (t297 != t258)) else (laws_FnExactCancelCircle.j2 kj44 t287 t286 true)) = some r := by rw [if_pos rfl] at H; exact H
                              clear H
                              have H := H1
                              clear H1
                              by_cases c84 : t296 = t257
                              · rw [if_pos c84] at H
                                have c84b0 : (t296 == t257) = true := beq_iff_eq.mpr c84
                                have c84b1 : (t296 != t257) = false := bne_eq_false_iff_eq.mpr c84
                                clear c84
                                (first | rw [c84b0] | (simp only [i64_w, i32_w]; rw [c84b0]) | skip)
                                have H' := Aside0.mk H
                                clear H
                                obtain ⟨Ao85, co85, eo85⟩ := Kd.R_slice HO299.out
                                subst eo85
                                obtain ⟨Ao86, co86, eo86⟩ := Kd.R_slice HO_8.out
                                subst eo86
                                go_wp2_with (first | ((with_reducible refine gate_callee (f := 19) rfl ?_); refine goesL_ (some 123) rfl rfl Try.func19 (by kernel_rfl) rfl #[.slice Ao85 t295.length co85, .slice Ao86 t256.length co86] rfl (by (try simp only [List.map_toArray, List.map_cons, List.map_nil]); first | done | (go_simp; done) | rfl | (simp only [List.length_drop, List.length_take]; rfl)) ?_; (with_reducible refine (laws_eqDebtS.calls kj44 _ _ t295 _ _ t256 true _ ?side1 ?side2 ?side3 ?side4 A82.out).mono ?_); (case side1 => repeat (first | exact (Kd.R_reads' HO299.out).2.2 | (with_reducible refine Kd.C_alloc ?_ _) | (with_reducible refine Kd.C_drewN ?_ _) | (with_reducible refine Kd.C_drew ?_))); (case side2 => exact (Kd.R_reads' HO299.out).2.1); (case side3 => repeat (first | exact (Kd.R_reads' HO_8.out).2.2 | (with_reducible refine Kd.C_alloc ?_ _) | (with_reducible refine Kd.C_drewN ?_ _) | (with_reducible refine Kd.C_drew ?_))); (case side4 => exact (Kd.R_reads' HO_8.out).2.1); rintro e w87 ⟨rfl, hb⟩; refine ⟨_, rfl, ?_⟩; have n0_ := Aside0.mk (Kd.R_below (by (with_reducible repeat (first | apply Kd.R_alloc | apply Kd.R_drewN | apply Kd.R_drew)); exact HO_8.out) hb); have n1_ := Aside0.mk (Kd.R_below (by (with_reducible repeat (first | apply Kd.R_alloc | apply Kd.R_drewN | apply Kd.R_drew)); exact HO_13.out) hb); have n2_ := Aside0.mk (Kd.R_below (by (with_reducible repeat (first | apply Kd.R_alloc | apply Kd.R_drewN | apply Kd.R_drew)); exact HO291.out) hb); have n3_ := Aside0.mk (Kd.R_below (by (with_reducible repeat (first | apply Kd.R_alloc | apply Kd.R_drewN | apply Kd.R_drew)); exact HO294.out) hb); have n4_ := Aside0.mk (Kd.R_below (by (with_reducible repeat (first | apply Kd.R_alloc | apply Kd.R_drewN | apply Kd.R_drew)); exact HO299.out) hb); have n5_ := Aside0.mk (below_step (by repeat (first | (with_reducible first | exact HB.out | apply below_alloc | apply pw_below_drewN | apply below_drew1) | exact HB.out)) hb); clear HO_8; clear HO_13; clear HO291; clear HO294; clear HO299; clear HB; have HO_8 := n0_; have HO_13 := n1_; have HO291 := n2_; have HO294 := n3_; have HO299 := n4_; have HB := n5_; clear n0_ n1_ n2_ n3_ n4_ n5_; (try clear hb); (try clear hb2); (try clear hk); (try clear hi)))
                                go_meet
                                case rel => exact ⟨_, ((t297 != t258)), (by first | rfl | (simp; done) | (simp [*]; done)), H', ⟨by have := HJ12.out; have := HJ44.out; first | omega | exact Nat.le_refl _⟩, ⟨by (with_reducible repeat (first | apply Kd.R_alloc | apply Kd.R_drewN | apply Kd.R_drew)); exact Kd.R_mono HO_13.out (fun _ hk => trivial)⟩, ⟨by repeat (first | (with_reducible first | exact HB.out | apply below_alloc | apply pw_below_drewN | apply below_drew1) | exact HB.out)⟩⟩
                              · rw [if_neg c84] at H
                                have c84b0 : (t296 == t257) = false := beq_eq_false_iff_ne.mpr c84
                                have c84b1 : (t296 != t257) = true := bne_iff_ne.mpr c84
                                (first | rw [c84b0] | (simp only [i64_w, i32_w]; rw [c84b0]) | skip)
                                have H' := Aside0.mk H
                                clear H
                                obtain ⟨Ao88, co88, eo88⟩ := Kd.R_slice HO299.out
                                subst eo88
                                obtain ⟨Ao89, co89, eo89⟩ := Kd.R_slice HO_8.out
                                subst eo89
                                go_wp2_with (first | ((with_reducible refine gate_callee (f := 19) rfl ?_); refine goesL_ (some 123) rfl rfl Try.func19 (by kernel_rfl) rfl #[.slice Ao88 t295.length co88, .slice Ao89 t256.length co89] rfl (by (try simp only [List.map_toArray, List.map_cons, List.map_nil]); first | done | (go_simp; done) | rfl | (simp only [List.length_drop, List.length_take]; rfl)) ?_; (with_reducible refine (laws_eqDebtS.calls kj44 _ _ t295 _ _ t256 true _ ?side1 ?side2 ?side3 ?side4 A82.out).mono ?_); (case side1 => repeat (first | exact (Kd.R_reads' HO299.out).2.2 | (with_reducible refine Kd.C_alloc ?_ _) | (with_reducible refine Kd.C_drewN ?_ _) | (with_reducible refine Kd.C_drew ?_))); (case side2 => exact (Kd.R_reads' HO299.out).2.1); (case side3 => repeat (first | exact (Kd.R_reads' HO_8.out).2.2 | (with_reducible refine Kd.C_alloc ?_ _) | (with_reducible refine Kd.C_drewN ?_ _) | (with_reducible refine Kd.C_drew ?_))); (case side4 => exact (Kd.R_reads' HO_8.out).2.1); rintro e w90 ⟨rfl, hb⟩; refine ⟨_, rfl, ?_⟩; have n0_ := Aside0.mk (Kd.R_below (by (with_reducible repeat (first | apply Kd.R_alloc | apply Kd.R_drewN | apply Kd.R_drew)); exact HO_8.out) hb); have n1_ := Aside0.mk (Kd.R_below (by (with_reducible repeat (first | apply Kd.R_alloc | apply Kd.R_drewN | apply Kd.R_drew)); exact HO_13.out) hb); have n2_ := Aside0.mk (Kd.R_below (by (with_reducible repeat (first | apply Kd.R_alloc | apply Kd.R_drewN | apply Kd.R_drew)); exact HO291.out) hb); have n3_ := Aside0.mk (Kd.R_below (by (with_reducible repeat (first | apply Kd.R_alloc | apply Kd.R_drewN | apply Kd.R_drew)); exact HO294.out) hb); have n4_ := Aside0.mk (Kd.R_below (by (with_reducible repeat (first | apply Kd.R_alloc | apply Kd.R_drewN | apply Kd.R_drew)); exact HO299.out) hb); have n5_ := Aside0.mk (below_step (by repeat (first | (with_reducible first | exact HB.out | apply below_alloc | apply pw_below_drewN | apply below_drew1) | exact HB.out)) hb); clear HO_8; clear HO_13; clear HO291; clear HO294; clear HO299; clear HB; have HO_8 := n0_; have HO_13 := n1_; have HO291 := n2_; have HO294 := n3_; have HO299 := n4_; have HB := n5_; clear n0_ n1_ n2_ n3_ n4_ n5_; (try clear hb); (try clear hb2); (try clear hk); (try clear hi)))
                                go_meet
                                case rel => exact ⟨_, (true), (by first | rfl | (simp; done) | (simp [*]; done)), H', ⟨by have := HJ12.out; have := HJ44.out; first | omega | exact Nat.le_refl _⟩, ⟨by (with_reducible repeat (first | apply Kd.R_alloc | apply Kd.R_drewN | apply Kd.R_drew)); exact Kd.R_mono HO_13.out (fun _ hk => trivial)⟩, ⟨by repeat (first | (with_reducible first | exact HB.out | apply below_alloc | apply pw_below_drewN | apply below_drew1) | exact HB.out)⟩⟩
                            · replace c83 := Bool.eq_false_iff.mpr c83
                              subst c83
                              have H1 : (laws_FnExactCancelCircle.j2 kj44 t287 t286 true) = some r := by rw [if_neg (show ¬ (false = true) by decide)] at H; exact H
                              clear H
                              have H := H1
                              clear H1
                              have H' := Aside0.mk H
                              clear H
                              obtain ⟨Ao91, co91, eo91⟩ := Kd.R_slice HO299.out
                              subst eo91
                              obtain ⟨Ao92, co92, eo92⟩ := Kd.R_slice HO_8.out
                              subst eo92
                              go_wp2_with (first | ((with_reducible refine gate_callee (f := 19) rfl ?_); refine goesL_ (some 123) rfl rfl Try.func19 (by kernel_rfl) rfl #[.slice Ao91 t295.length co91, .slice Ao92 t256.length co92] rfl (by (try simp only [List.map_toArray, List.map_cons, List.map_nil]); first | done | (go_simp; done) | rfl | (simp only [List.length_drop, List.length_take]; rfl)) ?_; (with_reducible refine (laws_eqDebtS.calls kj44 _ _ t295 _ _ t256 false _ ?side1 ?side2 ?side3 ?side4 A82.out).mono ?_); (case side1 => repeat (first | exact (Kd.R_reads' HO299.out).2.2 | (with_reducible refine Kd.C_alloc ?_ _) | (with_reducible refine Kd.C_drewN ?_ _) | (with_reducible refine Kd.C_drew ?_))); (case side2 => exact (Kd.R_reads' HO299.out).2.1); (case side3 => repeat (first | exact (Kd.R_reads' HO_8.out).2.2 | (with_reducible refine Kd.C_alloc ?_ _) | (with_reducible refine Kd.C_drewN ?_ _) | (with_reducible refine Kd.C_drew ?_))); (case side4 => exact (Kd.R_reads' HO_8.out).2.1); rintro e w93 ⟨rfl, hb⟩; refine ⟨_, rfl, ?_⟩; have n0_ := Aside0.mk (Kd.R_below (by (with_reducible repeat (first | apply Kd.R_alloc | apply Kd.R_drewN | apply Kd.R_drew)); exact HO_8.out) hb); have n1_ := Aside0.mk (Kd.R_below (by (with_reducible repeat (first | apply Kd.R_alloc | apply Kd.R_drewN | apply Kd.R_drew)); exact HO_13.out) hb); have n2_ := Aside0.mk (Kd.R_below (by (with_reducible repeat (first | apply Kd.R_alloc | apply Kd.R_drewN | apply Kd.R_drew)); exact HO291.out) hb); have n3_ := Aside0.mk (Kd.R_below (by (with_reducible repeat (first | apply Kd.R_alloc | apply Kd.R_drewN | apply Kd.R_drew)); exact HO294.out) hb); have n4_ := Aside0.mk (Kd.R_below (by (with_reducible repeat (first | apply Kd.R_alloc | apply Kd.R_drewN | apply Kd.R_drew)); exact HO299.out) hb); have n5_ := Aside0.mk (below_step (by repeat (first | (with_reducible first | exact HB.out | apply below_alloc | apply pw_below_drewN | apply below_drew1) | exact HB.out)) hb); clear HO_8; clear HO_13; clear HO291; clear HO294; clear HO299; clear HB; have HO_8 := n0_; have HO_13 := n1_; have HO291 := n2_; have HO294 := n3_; have HO299 := n4_; have HB := n5_; clear n0_ n1_ n2_ n3_ n4_ n5_; (try clear hb); (try clear hb2); (try clear hk); (try clear hi)))
                              go_meet
                              case rel => exact ⟨_, (true), (by first | rfl | (simp; done) | (simp [*]; done)), H', ⟨by have := HJ12.out; have := HJ44.out; first | omega | exact Nat.le_refl _⟩, ⟨by (with_reducible repeat (first | apply Kd.R_alloc | apply Kd.R_drewN | apply Kd.R_drew)); exact Kd.R_mono HO_13.out (fun _ hk => trivial)⟩, ⟨by repeat (first | (with_reducible first | exact HB.out | apply below_alloc | apply pw_below_drewN | apply below_drew1) | exact HB.out)⟩⟩
                          case rest =>
                            clear HC74
                            try clear c1
                            try clear c2
                            try clear p2
                            try clear c3
                            try clear c4
                            try clear c4b0
                            try clear c4b1
                            try clear c5
                            try clear c6
                            try clear c6b0
                            try clear c7
                            try clear c8
                            try clear c15
                            try clear c17
                            try clear c19
                            try clear c22
                            try clear c23
                            try clear c25
                            try clear c26
                            try clear c26b0
                            try clear c26b1
                            try clear c28
                            try clear c29
                            try clear c31
                            try clear c32
                            try clear c33
                            try clear c36
                            try clear c39
                            try clear c42
                            try clear c53
                            try clear c53b0
                            try clear c55
                            try clear c56
                            try clear c56b0
                            try clear c56b1
                            try clear c66
                            try clear c69
                            try clear c69b0
                            try clear c70
                            try clear c70b0
                            try clear c70b1
                            try clear c83
                            try clear c84
                            try clear c84b0
                            try clear c84b1
                            try clear p2
                            obtain ⟨kq, x134_73, rfl, HA, HJ73, HO_13, HB⟩ := hcut
                            have hl13_73 := (Kd.R_reads' HO_13.out).1
                            rw [hl13_73] at HO_13
                            (try simp only [hl13_73])
                            cases kq with
                            | zero => exact absurd HA.out (by simp [laws_FnExactCancelCircle.j2])
                            | succ kj73 =>
                              have H := HA.out
                              clear HA
                              simp only [laws_FnExactCancelCircle.j2] at H
                              by_cases c94 : x134_73 = true
                              · subst c94
                                have H1 : (some false) = some r := by rw [if_pos rfl] at H; exact H
                                clear H
                                have H := H1
                                clear H1
                                obtain rfl := Option.some.inj H
                                cases ht
                              · replace c94 := Bool.eq_false_iff.mpr c94
                                subst c94
                                have H1 : ((laws_heldDebtS.f kj73 t287 1).bind fun t301 => (if t301 < 0 then (some false) else (if t301 = t286 then (some true) else (some false)))) = some r := by rw [if_neg (show ¬ (false = true) by decide)] at H; exact H
                                clear H
                                have H := H1
                                clear H1
                                replace H := Option.bind_eq_some_iff.mp H
                                obtain ⟨t301, A950, H⟩ := H
                                replace H : (if t301 < 0 then (some false) else (if t301 = t286 then (some true) else (some false))) = some r := H
                                have A95 := Aside0.mk A950
                                clear A950
                                by_cases c96 : t301 < 0
                                · rw [if_pos c96] at H
                                  have c96b0 : decide (t301 < 0) = true := decide_eq_true c96
                                  clear c96
                                  obtain rfl := Option.some.inj H
                                  cases ht
                                · rw [if_neg c96] at H
                                  have c96b0 : decide (t301 < 0) = false := decide_eq_false c96
                                  clear c96
                                  by_cases c97 : t301 = t286
                                  · rw [if_pos c97] at H
                                    have c97b0 : (t301 == t286) = true := beq_iff_eq.mpr c97
                                    have c97b1 : (t301 != t286) = false := bne_eq_false_iff_eq.mpr c97
                                    clear c97
                                    obtain rfl := Option.some.inj H
                                    go_wp2_with (first | ((with_reducible refine gate_callee (f := 23) rfl ?_); refine goesL_ (some 137) rfl rfl Try.func23 (by kernel_rfl) rfl #[.slice Ao75 t287.length co75, .int .i64 1] rfl (by (try simp only [List.map_toArray, List.map_cons, List.map_nil]); first | done | (go_simp; done) | rfl | (simp only [List.length_drop, List.length_take]; rfl)) ?_; (with_reducible refine (laws_heldDebtS.calls kj73 _ _ t287 1 t301 _ ?side1 ?side2 A95.out).mono ?_); (case side1 => repeat (first | exact (Kd.R_reads' HO_13.out).2.2 | (with_reducible refine Kd.C_alloc ?_ _) | (with_reducible refine Kd.C_drewN ?_ _) | (with_reducible refine Kd.C_drew ?_))); (case side2 => exact (Kd.R_reads' HO_13.out).2.1); rintro e w' ⟨rfl, ⟨nd, rfl⟩⟩; refine ⟨_, rfl, ?_⟩))
                                    go_ret
                                    exact ⟨by first | rfl | (simp [errW_none, errW_some] <;> rfl) | (simp [*, errW_none, errW_some] <;> rfl), by repeat (first | (with_reducible first | exact HB.out | apply below_alloc | apply pw_below_drewN | apply below_drew1) | exact HB.out)⟩
                                  · rw [if_neg c97] at H
                                    have c97b0 : (t301 == t286) = false := beq_eq_false_iff_ne.mpr c97
                                    have c97b1 : (t301 != t286) = true := bne_iff_ne.mpr c97
                                    obtain rfl := Option.some.inj H
                                    cases ht
                        · rw [if_neg c70] at H
                          have c70b0 : (t288 == t286) = false := beq_eq_false_iff_ne.mpr c70
                          have c70b1 : (t288 != t286) = true := bne_iff_ne.mpr c70
                          obtain rfl := Option.some.inj H
                          cases ht
              · replace c42 := Bool.eq_false_iff.mpr c42
                subst c42
                have H1 : (some false) = some r := by rw [if_neg (show ¬ (false = true) by decide)] at H; exact H
                clear H
                have H := H1
                clear H1
                obtain rfl := Option.some.inj H
                cases ht
            · replace c39 := Bool.eq_false_iff.mpr c39
              subst c39
              have H1 : (some false) = some r := by rw [if_neg (show ¬ (false = true) by decide)] at H; exact H
              clear H
              have H := H1
              clear H1
              obtain rfl := Option.some.inj H
              cases ht

end Go.Proofs.Ytofcgkcpkngocaa.MCancelCircle
