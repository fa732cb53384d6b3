-- by a program of this session, for this claim
import Derived.Test.YtcblnnfodpglaaaMRoomForx0
import Derived.Test.YtcblnnfodpglaaaMRoomForx1
import Derived.Test.YtcblnnfodpglaaaMRoomForx2
import Derived.Test.YtcblnnfodpglaaaMRoomForx4
import Derived.Test.YtcblnnfodpglaaaMRoomForx7
namespace Go.Proofs.Ytcblnnfodpglaaa.MRoomFor
open Go.RowKit Go.Proofs.YtcblnnfodpglaaaW.PrintWords Go.Proofs.YtcblnnfodpglaaaW.PrintLast Go.Proofs.YtcblnnfodpglaaaW.PrintMore
attribute [local go_sem] max2_int min2_int max_two min_two max_three min_three max_four min_four   -- for this text's walks alone
set_option linter.unusedVariables false
set_option linter.unusedSimpArgs false

/-! ### laws_FnExactRoomFor: function 6 -/
mutual
def laws_FnExactRoomFor.j0 : Nat → Int → List Int → Int → List Int → Int → Bool → Bool → List (S107) → Vector Int 16 → Bool → List (S71) → Vector Int 16 → Option (Bool)
  | 0, _, _, _, _, _, _, _, _, _, _, _, _ => none
  | k + 1, x1, x6, x7, x9, x10, x44, x280000, x280001, x280002, x296000, x296001, x296002 => if x44 = true then (some false) else ((laws_toHalf.f k x280000 x280001 x280002).bind fun bt301 => ((laws_eqHalf.f k x296000 x296001 x296002 bt301.1 bt301.2.1 bt301.2.2).bind fun t306 => (if t306 = true then ((laws_markHalf.f k x296000 x296001 x296002 1).bind fun bt307 => (if bt307.1 < 0 then (laws_FnExactRoomFor.j1 k x1 x6 x7 x9 true x280000 x280001 x280002) else ((laws_eqInt64S.f k x9 x6).bind fun t309 => (if t309 = true then (laws_FnExactRoomFor.j1 k x1 x6 x7 x9 (x10 != x7) x280000 x280001 x280002) else (laws_FnExactRoomFor.j1 k x1 x6 x7 x9 true x280000 x280001 x280002))))) else (some false))))
def laws_FnExactRoomFor.j1 : Nat → Int → List Int → Int → List Int → Bool → Bool → List (S107) → Vector Int 16 → Option (Bool)
  | 0, _, _, _, _, _, _, _, _ => none
  | k + 1, x1, x6, x7, x9, x65, x280000, x280001, x280002 => if x65 = true then (some false) else ((laws_markInt64S.f k x9 1).bind fun bt310 => ((laws_heldInt64S.f k bt310.2 1).bind fun t312 => (if t312 < 0 then (some false) else (if t312 = bt310.1 then ((laws_toHalf.f k x280000 x280001 x280002).bind fun bt313 => ((impl_RoomFor.f k bt313.1 bt313.2.1 bt313.2.2 x1).bind fun bt318 => ((laws_eqInt64S.f k bt318.1 x6).bind fun t322 => (if t322 = true then (laws_FnExactRoomFor.j2 k bt310.2 bt310.1 (bt318.2 != x7)) else (laws_FnExactRoomFor.j2 k bt310.2 bt310.1 true))))) else (some false)))))
def laws_FnExactRoomFor.j2 : Nat → List Int → Int → Bool → Option (Bool)
  | 0, _, _, _ => none
  | k + 1, x9, x12, x92 => if x92 = true then (some false) else ((laws_heldInt64S.f k x9 1).bind fun t323 => (if t323 < 0 then (some false) else (if t323 = x12 then (some true) else (some false))))
end
def laws_FnExactRoomFor.f (k : Nat) (a0_0 : Bool) (l0_1 : List (S107)) (a0_2 : Vector Int 16) (a1 : Int) : Option (Bool) := (laws_szHalf.f a0_0 l0_1 a0_2 1048576).bind fun t280 => (if t280 < 0 then (some true) else ((laws_toHalf.f k a0_0 l0_1 a0_2).bind fun bt281 => ((spec_RoomFor.f k bt281.1 bt281.2.1 bt281.2.2 a1).bind fun bt286 => ((laws_toHalf.f k a0_0 l0_1 a0_2).bind fun bt290 => ((impl_RoomFor.f k bt290.1 bt290.2.1 bt290.2.2 a1).bind fun bt296 => ((laws_eqInt64S.f k bt296.1 bt286.1).bind fun t300 => (if t300 = true then (laws_FnExactRoomFor.j0 k a1 bt286.1 bt286.2 bt296.1 bt296.2 (bt296.2 != bt286.2) a0_0 l0_1 a0_2 bt290.1 bt290.2.1 bt290.2.2) else (laws_FnExactRoomFor.j0 k a1 bt286.1 bt286.2 bt296.1 bt296.2 true a0_0 l0_1 a0_2 bt290.1 bt290.2.1 bt290.2.2))))))))
theorem laws_FnExactRoomFor.mono_l : ∀ k, (∀ y0 y1 y2 y3 y4 y5 y6 y7 y8 y9 y10 y11, LeO (laws_FnExactRoomFor.j0 k y0 y1 y2 y3 y4 y5 y6 y7 y8 y9 y10 y11) (laws_FnExactRoomFor.j0 (k + 1) y0 y1 y2 y3 y4 y5 y6 y7 y8 y9 y10 y11)) ∧ (∀ y0 y1 y2 y3 y4 y5 y6 y7, LeO (laws_FnExactRoomFor.j1 k y0 y1 y2 y3 y4 y5 y6 y7) (laws_FnExactRoomFor.j1 (k + 1) y0 y1 y2 y3 y4 y5 y6 y7)) ∧ (∀ y0 y1 y2, LeO (laws_FnExactRoomFor.j2 k y0 y1 y2) (laws_FnExactRoomFor.j2 (k + 1) y0 y1 y2))
  | 0 => ⟨fun _ _ _ _ _ _ _ _ _ _ _ _ r h => by simp [laws_FnExactRoomFor.j0] at h, fun _ _ _ _ _ _ _ _ r h => by simp [laws_FnExactRoomFor.j1] at h, fun _ _ _ r h => by simp [laws_FnExactRoomFor.j2] at h⟩
  | k + 1 => by
    obtain ⟨ih0, ih1, ih2⟩ := laws_FnExactRoomFor.mono_l k
    refine ⟨?_, ?_, ?_⟩
    · intro y0 y1 y2 y3 y4 y5 y6 y7 y8 y9 y10 y11
      unfold laws_FnExactRoomFor.j0
      repeat' first
      | (with_reducible exact ih0 _ _ _ _ _ _ _ _ _ _ _ _)
      | (with_reducible exact ih1 _ _ _ _ _ _ _ _)
      | (with_reducible exact ih2 _ _ _)
      | (with_reducible exact impl_RoomFor.mono _ _ _ _ _)
      | (with_reducible exact laws_eqHalf.mono _ _ _ _ _ _ _)
      | (with_reducible exact laws_eqInt64S.mono _ _ _)
      | (with_reducible exact laws_heldInt64S.mono _ _ _)
      | (with_reducible exact laws_markHalf.mono _ _ _ _ _)
      | (with_reducible exact laws_markInt64S.mono _ _ _)
      | (with_reducible exact laws_toHalf.mono _ _ _ _)
      | (with_reducible exact spec_RoomFor.mono _ _ _ _ _)
      | (with_reducible exact LeO.refl _)
      | (with_reducible exact LeO.none _)
      | (with_reducible refine LeO.ite ?_ ?_)
      | (with_reducible refine LeO.bind ?_ (fun _ => ?_))
      | exact ih0 _ _ _ _ _ _ _ _ _ _ _ _
      | exact ih1 _ _ _ _ _ _ _ _
      | exact ih2 _ _ _
      | exact impl_RoomFor.mono _ _ _ _ _
      | exact laws_eqHalf.mono _ _ _ _ _ _ _
      | exact laws_eqInt64S.mono _ _ _
      | exact laws_heldInt64S.mono _ _ _
      | exact laws_markHalf.mono _ _ _ _ _
      | exact laws_markInt64S.mono _ _ _
      | exact laws_toHalf.mono _ _ _ _
      | exact spec_RoomFor.mono _ _ _ _ _
      | exact LeO.none _
      | refine LeO.ite ?_ ?_
      | refine LeO.bind ?_ (fun _ => ?_)
    · intro y0 y1 y2 y3 y4 y5 y6 y7
      unfold laws_FnExactRoomFor.j1
      repeat' first
      | (with_reducible exact ih0 _ _ _ _ _ _ _ _ _ _ _ _)
      | (with_reducible exact ih1 _ _ _ _ _ _ _ _)
      | (with_reducible exact ih2 _ _ _)
      | (with_reducible exact impl_RoomFor.mono _ _ _ _ _)
      | (with_reducible exact laws_eqHalf.mono _ _ _ _ _ _ _)
      | (with_reducible exact laws_eqInt64S.mono _ _ _)
      | (with_reducible exact laws_heldInt64S.mono _ _ _)
      | (with_reducible exact laws_markHalf.mono _ _ _ _ _)
      | (with_reducible exact laws_markInt64S.mono _ _ _)
      | (with_reducible exact laws_toHalf.mono _ _ _ _)
      | (with_reducible exact spec_RoomFor.mono _ _ _ _ _)
      | (with_reducible exact LeO.refl _)
      | (with_reducible exact LeO.none _)
      | (with_reducible refine LeO.ite ?_ ?_)
      | (with_reducible refine LeO.bind ?_ (fun _ => ?_))
      | exact ih0 _ _ _ _ _ _ _ _ _ _ _ _
      | exact ih1 _ _ _ _ _ _ _ _
      | exact ih2 _ _ _
      | exact impl_RoomFor.mono _ _ _ _ _
      | exact laws_eqHalf.mono _ _ _ _ _ _ _
      | exact laws_eqInt64S.mono _ _ _
      | exact laws_heldInt64S.mono _ _ _
      | exact laws_markHalf.mono _ _ _ _ _
      | exact laws_markInt64S.mono _ _ _
      | exact laws_toHalf.mono _ _ _ _
      | exact spec_RoomFor.mono _ _ _ _ _
      | exact LeO.none _
      | refine LeO.ite ?_ ?_
      | refine LeO.bind ?_ (fun _ => ?_)
    · intro y0 y1 y2
      unfold laws_FnExactRoomFor.j2
      repeat' first
      | (with_reducible exact ih0 _ _ _ _ _ _ _ _ _ _ _ _)
      | (with_reducible exact ih1 _ _ _ _ _ _ _ _)
      | (with_reducible exact ih2 _ _ _)
      | (with_reducible exact impl_RoomFor.mono _ _ _ _ _)
      | (with_reducible exact laws_eqHalf.mono _ _ _ _ _ _ _)
      | (with_reducible exact laws_eqInt64S.mono _ _ _)
      | (with_reducible exact laws_heldInt64S.mono _ _ _)
      | (with_reducible exact laws_markHalf.mono _ _ _ _ _)
      | (with_reducible exact laws_markInt64S.mono _ _ _)
      | (with_reducible exact laws_toHalf.mono _ _ _ _)
      | (with_reducible exact spec_RoomFor.mono _ _ _ _ _)
      | (with_reducible exact LeO.refl _)
      | (with_reducible exact LeO.none _)
      | (with_reducible refine LeO.ite ?_ ?_)
      | (with_reducible refine LeO.bind ?_ (fun _ => ?_))
      | exact ih0 _ _ _ _ _ _ _ _ _ _ _ _
      | exact ih1 _ _ _ _ _ _ _ _
      | exact ih2 _ _ _
      | exact impl_RoomFor.mono _ _ _ _ _
      | exact laws_eqHalf.mono _ _ _ _ _ _ _
      | exact laws_eqInt64S.mono _ _ _
      | exact laws_heldInt64S.mono _ _ _
      | exact laws_markHalf.mono _ _ _ _ _
      | exact laws_markInt64S.mono _ _ _
      | exact laws_toHalf.mono _ _ _ _
      | exact spec_RoomFor.mono _ _ _ _ _
      | exact LeO.none _
      | refine LeO.ite ?_ ?_
      | refine LeO.bind ?_ (fun _ => ?_)
theorem laws_FnExactRoomFor.mono : ∀ a0 a1 a2 a3 k, LeO (laws_FnExactRoomFor.f k a0 a1 a2 a3) (laws_FnExactRoomFor.f (k + 1) a0 a1 a2 a3) := by
  intro a0 a1 a2 a3 k
  obtain ⟨ih0, ih1, ih2⟩ := laws_FnExactRoomFor.mono_l k
  unfold laws_FnExactRoomFor.f
  repeat' first
      | (with_reducible exact ih0 _ _ _ _ _ _ _ _ _ _ _ _)
      | (with_reducible exact ih1 _ _ _ _ _ _ _ _)
      | (with_reducible exact ih2 _ _ _)
      | (with_reducible exact impl_RoomFor.mono _ _ _ _ _)
      | (with_reducible exact laws_eqHalf.mono _ _ _ _ _ _ _)
      | (with_reducible exact laws_eqInt64S.mono _ _ _)
      | (with_reducible exact laws_heldInt64S.mono _ _ _)
      | (with_reducible exact laws_markHalf.mono _ _ _ _ _)
      | (with_reducible exact laws_markInt64S.mono _ _ _)
      | (with_reducible exact laws_toHalf.mono _ _ _ _)
      | (with_reducible exact spec_RoomFor.mono _ _ _ _ _)
      | (with_reducible exact LeO.refl _)
      | (with_reducible exact LeO.none _)
      | (with_reducible refine LeO.ite ?_ ?_)
      | (with_reducible refine LeO.bind ?_ (fun _ => ?_))
      | exact ih0 _ _ _ _ _ _ _ _ _ _ _ _
      | exact ih1 _ _ _ _ _ _ _ _
      | exact ih2 _ _ _
      | exact impl_RoomFor.mono _ _ _ _ _
      | exact laws_eqHalf.mono _ _ _ _ _ _ _
      | exact laws_eqInt64S.mono _ _ _
      | exact laws_heldInt64S.mono _ _ _
      | exact laws_markHalf.mono _ _ _ _ _
      | exact laws_markInt64S.mono _ _ _
      | exact laws_toHalf.mono _ _ _ _
      | exact spec_RoomFor.mono _ _ _ _ _
      | exact LeO.none _
      | refine LeO.ite ?_ ?_
      | refine LeO.bind ?_ (fun _ => ?_)
set_option maxHeartbeats 8000000 in
set_option maxRecDepth 100000 in
theorem laws_FnExactRoomFor.calls (k : Nat) (a0_0 : Bool) (A0_1 : Option Addr) (c0_1 : Nat) (l0_1 : List (S107)) (a0_2 : Vector Int 16) (a1 : Int) (r : Bool) (w : World) (hr0_1 : Kd.C k107 w A0_1 l0_1.length l0_1) (hc0_1 : l0_1.length ≤ c0_1) (h : laws_FnExactRoomFor.f k a0_0 l0_1 a0_2 a1 = some r) (ht : r = true) :
    Calls Try.prog 6 #[.agg (⟨(.bool a0_0) :: (.slice A0_1 l0_1.length c0_1) :: Arr.arL .i8 a0_2⟩ : Array Value), .int .i64 a1] w fun e w' => e = .returned (.bool r) ∧ Below w.heap.size w w' := by
  have hu54 := Try.underlying54
  have hu27 := Try.underlying27
  have HR0_1 := Aside0.mk hr0_1
  have HC0_1 := Aside0.mk hc0_1
  clear hr0_1 hc0_1
  have HB := Aside0.mk (Below.refl w.heap.size w)
  have H : ((laws_szHalf.f a0_0 l0_1 a0_2 1048576).bind fun t280 => (if t280 < 0 then (some true) else ((laws_toHalf.f k a0_0 l0_1 a0_2).bind fun bt281 => ((spec_RoomFor.f k bt281.1 bt281.2.1 bt281.2.2 a1).bind fun bt286 => ((laws_toHalf.f k a0_0 l0_1 a0_2).bind fun bt290 => ((impl_RoomFor.f k bt290.1 bt290.2.1 bt290.2.2 a1).bind fun bt296 => ((laws_eqInt64S.f k bt296.1 bt286.1).bind fun t300 => (if t300 = true then (laws_FnExactRoomFor.j0 k a1 bt286.1 bt286.2 bt296.1 bt296.2 (bt296.2 != bt286.2) a0_0 l0_1 a0_2 bt290.1 bt290.2.1 bt290.2.2) else (laws_FnExactRoomFor.j0 k a1 bt286.1 bt286.2 bt296.1 bt296.2 true a0_0 l0_1 a0_2 bt290.1 bt290.2.1 bt290.2.2))))))))) = some r := h
  clear h
  replace H := Option.bind_eq_some_iff.mp H
  obtain ⟨t280, A40, H⟩ := H
  replace H : (if t280 < 0 then (some true) else ((laws_toHalf.f k a0_0 l0_1 a0_2).bind fun bt281 => ((spec_RoomFor.f k bt281.1 bt281.2.1 bt281.2.2 a1).bind fun bt286 => ((laws_toHalf.f k a0_0 l0_1 a0_2).bind fun bt290 => ((impl_RoomFor.f k bt290.1 bt290.2.1 bt290.2.2 a1).bind fun bt296 => ((laws_eqInt64S.f k bt296.1 bt286.1).bind fun t300 => (if t300 = true then (laws_FnExactRoomFor.j0 k a1 bt286.1 bt286.2 bt296.1 bt296.2 (bt296.2 != bt286.2) a0_0 l0_1 a0_2 bt290.1 bt290.2.1 bt290.2.2) else (laws_FnExactRoomFor.j0 k a1 bt286.1 bt286.2 bt296.1 bt296.2 true a0_0 l0_1 a0_2 bt290.1 bt290.2.1 bt290.2.2)))))))) = some r := H
  have A4 := Aside0.mk A40
  clear A40
  by_cases c5 : t280 < 0
  · rw [if_pos c5] at H
    have c5b0 : decide (t280 < 0) = true := decide_eq_true c5
    clear c5
    obtain rfl := Option.some.inj H
    go_enter Try.func6, Try.ntmps6
    go_wp2_with (first | ((with_reducible refine gate_dst (N := 2) rfl ?_); refine box_event ?hg (N := 2) ?hd (cs := (⟨(.bool a0_0) :: (.slice A0_1 l0_1.length c0_1) :: Arr.arL .i8 a0_2⟩ : Array Value)) (t := 54) ?hr ?_; (case hd => rfl); (case hg => rfl); (case hr => first | (go_simp; done) | (go_simp; rfl)); intro gb279 hg w6 hbox hb; have n0_ := Aside0.mk (below_step (by repeat (first | (with_reducible first | exact HB.out | apply below_alloc | apply pw_below_drewN | apply below_drew1) | exact HB.out)) hb); have n1_ := Aside0.mk (hbox); have n2_ := Aside0.mk ((by rw [hg]; exact (below_size (by repeat (first | (with_reducible first | exact HB.out | apply below_alloc | apply pw_below_drewN | apply below_drew1) | exact HB.out))) : w.heap.size ≤ gb279)); have n3_ := Aside0.mk ((by rw [hg]; exact (below_size (by repeat (first | (with_reducible first | exact HB.out | apply below_alloc | apply pw_below_drewN | apply below_drew1) | exact HB.out))) : w.heap.size ≤ gb279)); clear HB; have HB := n0_; have BK279 := n1_; have GW279 := n2_; have GE279 := n3_; clear n0_ n1_ n2_ n3_; clear hb hbox hg) | ((with_reducible refine Arr.gate_load (t := 54) (p := 2) rfl ?_); (try (refine gate_guard (by rfl) ?_; dsimp only)); refine Arr.loadA ?hg (T := 54) (p := 2) ?ho (g := gb279) (off := 0) ?hx (t := 54) (l := ((.bool a0_0) :: (.slice A0_1 l0_1.length c0_1) :: Arr.arL .i8 a0_2)) (m := ((.bool a0_0) :: (.slice A0_1 l0_1.length c0_1) :: Arr.arL .i8 a0_2)) (fr := (0, 0)) (show w6.heap[gb279]? = some (.cells (⟨(.bool a0_0) :: (.slice A0_1 l0_1.length c0_1) :: Arr.arL .i8 a0_2⟩ : Array Value) 54 (0, 0)) from by (with_reducible repeat (first | refine blk_drewN ?_ _ | refine blk_drew ?_ | refine blk_alloc ?_ _)); exact BK279.out) rfl Try.underlying54 rfl (n := 18) (by kernel_rfl) (by simp [Arr.arL_length]) ?_; (case hg => rfl); (case ho => rfl); (case hx => first | (go_simp; done) | rfl | (go_simp; rfl))) | ((with_reducible refine gate_callee (f := 26) rfl ?_); refine goesL_ (some 18) rfl rfl Try.func26 (by kernel_rfl) rfl #[.agg (⟨(.bool a0_0) :: (.slice A0_1 l0_1.length c0_1) :: Arr.arL .i8 a0_2⟩ : Array Value), .int .i64 1048576] rfl (by (try simp only [List.map_toArray, List.map_cons, List.map_nil]); first | done | (go_simp; done) | rfl | (simp only [List.length_drop, List.length_take]; rfl)) ?_; (with_reducible refine (laws_szHalf.calls a0_0 _ _ l0_1 a0_2 1048576 t280 _ ?side1 ?side2 A4.out).mono ?_); (case side1 => repeat (first | exact (Kd.C_below HR0_1.out HB.out) | (with_reducible refine Kd.C_alloc ?_ _) | (with_reducible refine Kd.C_drewN ?_ _) | (with_reducible refine Kd.C_drew ?_))); (case side2 => exact HC0_1.out); rintro e w7 ⟨rfl, hb⟩; refine ⟨_, rfl, ?_⟩; have n0_ := Aside0.mk (blk_below (g := gb279) (o := .cells (⟨(.bool a0_0) :: (.slice A0_1 l0_1.length c0_1) :: Arr.arL .i8 a0_2⟩ : Array Value) 54 (0, 0)) (by (with_reducible repeat (first | refine blk_drewN ?_ _ | refine blk_drew ?_ | refine blk_alloc ?_ _)); exact BK279.out) hb); have n1_ := Aside0.mk (below_step (by repeat (first | (with_reducible first | exact HB.out | apply below_alloc | apply pw_below_drewN | apply below_drew1 | refine below_set ?_ GE279.out) | exact HB.out)) hb); clear BK279; clear HB; have BK279 := n0_; have HB := n1_; clear n0_ n1_; (try clear hb); (try clear hb2); (try clear hk); (try clear hi)))
    go_ret
    exact ⟨by first | rfl | (simp [errW_none, errW_some] <;> rfl) | (simp [*, errW_none, errW_some] <;> rfl), by repeat (first | (with_reducible first | exact HB.out | apply below_alloc | apply pw_below_drewN | apply below_drew1 | refine below_set ?_ GE279.out) | exact HB.out)⟩
  · rw [if_neg c5] at H
    have c5b0 : decide (t280 < 0) = false := decide_eq_false c5
    clear c5
    replace H := Option.bind_eq_some_iff.mp H
    obtain ⟨⟨t281, t282, t285⟩, A90, H⟩ := H
    replace H : ((spec_RoomFor.f k t281 t282 t285 a1).bind fun bt286 => ((laws_toHalf.f k a0_0 l0_1 a0_2).bind fun bt290 => ((impl_RoomFor.f k bt290.1 bt290.2.1 bt290.2.2 a1).bind fun bt296 => ((laws_eqInt64S.f k bt296.1 bt286.1).bind fun t300 => (if t300 = true then (laws_FnExactRoomFor.j0 k a1 bt286.1 bt286.2 bt296.1 bt296.2 (bt296.2 != bt286.2) a0_0 l0_1 a0_2 bt290.1 bt290.2.1 bt290.2.2) else (laws_FnExactRoomFor.j0 k a1 bt286.1 bt286.2 bt296.1 bt296.2 true a0_0 l0_1 a0_2 bt290.1 bt290.2.1 bt290.2.2)))))) = some r := H
    have A9 := Aside0.mk A90
    clear A90
    replace H := Option.bind_eq_some_iff.mp H
    obtain ⟨⟨t286, t289⟩, A100, H⟩ := H
    replace H : ((laws_toHalf.f k a0_0 l0_1 a0_2).bind fun bt290 => ((impl_RoomFor.f k bt290.1 bt290.2.1 bt290.2.2 a1).bind fun bt296 => ((laws_eqInt64S.f k bt296.1 t286).bind fun t300 => (if t300 = true then (laws_FnExactRoomFor.j0 k a1 t286 t289 bt296.1 bt296.2 (bt296.2 != t289) a0_0 l0_1 a0_2 bt290.1 bt290.2.1 bt290.2.2) else (laws_FnExactRoomFor.j0 k a1 t286 t289 bt296.1 bt296.2 true a0_0 l0_1 a0_2 bt290.1 bt290.2.1 bt290.2.2))))) = some r := H
    have A10 := Aside0.mk A100
    clear A100
    replace H := Option.bind_eq_some_iff.mp H
    obtain ⟨⟨t290, t291, t294⟩, A120, H⟩ := H
    replace H : ((impl_RoomFor.f k t290 t291 t294 a1).bind fun bt296 => ((laws_eqInt64S.f k bt296.1 t286).bind fun t300 => (if t300 = true then (laws_FnExactRoomFor.j0 k a1 t286 t289 bt296.1 bt296.2 (bt296.2 != t289) a0_0 l0_1 a0_2 t290 t291 t294) else (laws_FnExactRoomFor.j0 k a1 t286 t289 bt296.1 bt296.2 true a0_0 l0_1 a0_2 t290 t291 t294)))) = some r := H
    have A12 := Aside0.mk A120
    clear A120
    replace H := Option.bind_eq_some_iff.mp H
    obtain ⟨⟨t296, t299⟩, A150, H⟩ := H
    replace H : ((laws_eqInt64S.f k t296 t286).bind fun t300 => (if t300 = true then (laws_FnExactRoomFor.j0 k a1 t286 t289 t296 t299 (t299 != t289) a0_0 l0_1 a0_2 t290 t291 t294) else (laws_FnExactRoomFor.j0 k a1 t286 t289 t296 t299 true a0_0 l0_1 a0_2 t290 t291 t294))) = some r := H
    have A15 := Aside0.mk A150
    clear A150
    have HC16 := Aside0.mk H
    clear H
    go_enter Try.func6, Try.ntmps6
    go_upto_region 8 with (first | ((with_reducible refine gate_dst (N := 2) rfl ?_); refine box_event ?hg (N := 2) ?hd (cs := (⟨(.bool a0_0) :: (.slice A0_1 l0_1.length c0_1) :: Arr.arL .i8 a0_2⟩ : Array Value)) (t := 54) ?hr ?_; (case hd => rfl); (case hg => rfl); (case hr => first | (go_simp; done) | (go_simp; rfl)); intro gb279 hg w17 hbox hb; have n0_ := Aside0.mk (below_step (by repeat (first | (with_reducible first | exact HB.out | apply below_alloc | apply pw_below_drewN | apply below_drew1) | exact HB.out)) hb); have n1_ := Aside0.mk (hbox); have n2_ := Aside0.mk ((by rw [hg]; exact (below_size (by repeat (first | (with_reducible first | exact HB.out | apply below_alloc | apply pw_below_drewN | apply below_drew1) | exact HB.out))) : w.heap.size ≤ gb279)); have n3_ := Aside0.mk ((by rw [hg]; exact (below_size (by repeat (first | (with_reducible first | exact HB.out | apply below_alloc | apply pw_below_drewN | apply below_drew1) | exact HB.out))) : w.heap.size ≤ gb279)); clear HB; have HB := n0_; have BK279 := n1_; have GW279 := n2_; have GE279 := n3_; clear n0_ n1_ n2_ n3_; clear hb hbox hg) | ((with_reducible refine Arr.gate_load (t := 54) (p := 2) rfl ?_); (try (refine gate_guard (by rfl) ?_; dsimp only)); refine Arr.loadA ?hg (T := 54) (p := 2) ?ho (g := gb279) (off := 0) ?hx (t := 54) (l := ((.bool a0_0) :: (.slice A0_1 l0_1.length c0_1) :: Arr.arL .i8 a0_2)) (m := ((.bool a0_0) :: (.slice A0_1 l0_1.length c0_1) :: Arr.arL .i8 a0_2)) (fr := (0, 0)) (show w17.heap[gb279]? = some (.cells (⟨(.bool a0_0) :: (.slice A0_1 l0_1.length c0_1) :: Arr.arL .i8 a0_2⟩ : Array Value) 54 (0, 0)) from by (with_reducible repeat (first | refine blk_drewN ?_ _ | refine blk_drew ?_ | refine blk_alloc ?_ _)); exact BK279.out) rfl Try.underlying54 rfl (n := 18) (by kernel_rfl) (by simp [Arr.arL_length]) ?_; (case hg => rfl); (case ho => rfl); (case hx => first | (go_simp; done) | rfl | (go_simp; rfl))) | ((with_reducible refine gate_callee (f := 26) rfl ?_); refine goesL_ (some 18) rfl rfl Try.func26 (by kernel_rfl) rfl #[.agg (⟨(.bool a0_0) :: (.slice A0_1 l0_1.length c0_1) :: Arr.arL .i8 a0_2⟩ : Array Value), .int .i64 1048576] rfl (by (try simp only [List.map_toArray, List.map_cons, List.map_nil]); first | done | (go_simp; done) | rfl | (simp only [List.length_drop, List.length_take]; rfl)) ?_; (with_reducible refine (laws_szHalf.calls a0_0 _ _ l0_1 a0_2 1048576 t280 _ ?side1 ?side2 A4.out).mono ?_); (case side1 => repeat (first | exact (Kd.C_below HR0_1.out HB.out) | (with_reducible refine Kd.C_alloc ?_ _) | (with_reducible refine Kd.C_drewN ?_ _) | (with_reducible refine Kd.C_drew ?_))); (case side2 => exact HC0_1.out); rintro e w18 ⟨rfl, hb⟩; refine ⟨_, rfl, ?_⟩; have n0_ := Aside0.mk (blk_below (g := gb279) (o := .cells (⟨(.bool a0_0) :: (.slice A0_1 l0_1.length c0_1) :: Arr.arL .i8 a0_2⟩ : Array Value) 54 (0, 0)) (by (with_reducible repeat (first | refine blk_drewN ?_ _ | refine blk_drew ?_ | refine blk_alloc ?_ _)); exact BK279.out) hb); have n1_ := Aside0.mk (below_step (by repeat (first | (with_reducible first | exact HB.out | apply below_alloc | apply pw_below_drewN | apply below_drew1 | refine below_set ?_ GE279.out) | exact HB.out)) hb); clear BK279; clear HB; have BK279 := n0_; have HB := n1_; clear n0_ n1_; (try clear hb); (try clear hb2); (try clear hk); (try clear hi)) | ((with_reducible refine Arr.gate_load (t := 54) (p := 2) rfl ?_); (try (refine gate_guard (by rfl) ?_; dsimp only)); refine Arr.loadA ?hg (T := 54) (p := 2) ?ho (g := gb279) (off := 0) ?hx (t := 54) (l := ((.bool a0_0) :: (.slice A0_1 l0_1.length c0_1) :: Arr.arL .i8 a0_2)) (m := ((.bool a0_0) :: (.slice A0_1 l0_1.length c0_1) :: Arr.arL .i8 a0_2)) (fr := (0, 0)) (show w18.heap[gb279]? = some (.cells (⟨(.bool a0_0) :: (.slice A0_1 l0_1.length c0_1) :: Arr.arL .i8 a0_2⟩ : Array Value) 54 (0, 0)) from by (with_reducible repeat (first | refine blk_drewN ?_ _ | refine blk_drew ?_ | refine blk_alloc ?_ _)); exact BK279.out) rfl Try.underlying54 rfl (n := 18) (by kernel_rfl) (by simp [Arr.arL_length]) ?_; (case hg => rfl); (case ho => rfl); (case hx => first | (go_simp; done) | rfl | (go_simp; rfl))) | ((with_reducible refine gate_callee (f := 28) rfl ?_); refine goesL_ (some 23) rfl rfl Try.func28 (by kernel_rfl) rfl #[.agg (⟨(.bool a0_0) :: (.slice A0_1 l0_1.length c0_1) :: Arr.arL .i8 a0_2⟩ : Array Value)] rfl (by (try simp only [List.map_toArray, List.map_cons, List.map_nil]); first | done | (go_simp; done) | rfl | (simp only [List.length_drop, List.length_take]; rfl)) ?_; (with_reducible refine (laws_toHalf.calls k a0_0 _ _ l0_1 a0_2 t281 t282 t285 _ ?side1 ?side2 A9.out).mono ?_); (case side1 => repeat (first | exact (Kd.C_below HR0_1.out HB.out) | (with_reducible refine Kd.C_alloc ?_ _) | (with_reducible refine Kd.C_drewN ?_ _) | (with_reducible refine Kd.C_drew ?_))); (case side2 => exact HC0_1.out); rintro e w19 ⟨v283, rfl, ho0, hb⟩; refine ⟨_, rfl, ?_⟩; have n0_ := Aside0.mk (Kd.R_lower ho0 (below_size (by repeat (first | (with_reducible first | exact HB.out | apply below_alloc | apply pw_below_drewN | apply below_drew1 | refine below_set ?_ GE279.out) | exact HB.out)))); have n1_ := Aside0.mk (blk_below (g := gb279) (o := .cells (⟨(.bool a0_0) :: (.slice A0_1 l0_1.length c0_1) :: Arr.arL .i8 a0_2⟩ : Array Value) 54 (0, 0)) (by (with_reducible repeat (first | refine blk_drewN ?_ _ | refine blk_drew ?_ | refine blk_alloc ?_ _)); exact BK279.out) hb); have n2_ := Aside0.mk (below_step (by repeat (first | (with_reducible first | exact HB.out | apply below_alloc | apply pw_below_drewN | apply below_drew1 | refine below_set ?_ GE279.out) | exact HB.out)) hb); clear BK279; clear HB; have HO284 := n0_; have BK279 := n1_; have HB := n2_; clear n0_ n1_ n2_; (try clear hb); (try clear hb2); (try clear hk); (try clear hi); (try clear ho0); obtain ⟨Ao20, co20, eo20⟩ := Kd.R_slice HO284.out; subst eo20) | ((with_reducible refine gate_callee (f := 30) rfl ?_); refine goesL_ (some 25) rfl rfl Try.func30 (by kernel_rfl) rfl #[.agg (⟨(.bool t281) :: (.slice Ao20 t282.length co20) :: Arr.arL .i8 t285⟩ : Array Value), .int .i64 a1] rfl (by (try simp only [List.map_toArray, List.map_cons, List.map_nil]); first | done | (go_simp; done) | rfl | (simp only [List.length_drop, List.length_take]; rfl)) ?_; (with_reducible refine (spec_RoomFor.calls k t281 _ _ t282 t285 a1 t286 t289 _ ?side1 ?side2 A10.out).mono ?_); (case side1 => repeat (first | exact (Kd.R_reads' HO284.out).2.2 | (with_reducible refine Kd.C_alloc ?_ _) | (with_reducible refine Kd.C_drewN ?_ _) | (with_reducible refine Kd.C_drew ?_))); (case side2 => exact (Kd.R_reads' HO284.out).2.1); rintro e w21 ⟨v287, rfl, ho0, hb⟩; refine ⟨_, rfl, ?_⟩; have n0_ := Aside0.mk (Kd.R_below (by (with_reducible repeat (first | apply Kd.R_alloc | apply Kd.R_drewN | apply Kd.R_drew)); exact HO284.out) hb); have n1_ := Aside0.mk (Kd.R_lower ho0 (below_size (by repeat (first | (with_reducible first | exact HB.out | apply below_alloc | apply pw_below_drewN | apply below_drew1 | refine below_set ?_ GE279.out) | exact HB.out)))); have n2_ := Aside0.mk (blk_below (g := gb279) (o := .cells (⟨(.bool a0_0) :: (.slice A0_1 l0_1.length c0_1) :: Arr.arL .i8 a0_2⟩ : Array Value) 54 (0, 0)) (by (with_reducible repeat (first | refine blk_drewN ?_ _ | refine blk_drew ?_ | refine blk_alloc ?_ _)); exact BK279.out) hb); have n3_ := Aside0.mk (below_step (by repeat (first | (with_reducible first | exact HB.out | apply below_alloc | apply pw_below_drewN | apply below_drew1 | refine below_set ?_ GE279.out) | exact HB.out)) hb); clear HO284; clear BK279; clear HB; have HO284 := n0_; have HO288 := n1_; have BK279 := n2_; have HB := n3_; clear n0_ n1_ n2_ n3_; (try clear hb); (try clear hb2); (try clear hk); (try clear hi); (try clear ho0)) | ((with_reducible refine Arr.gate_load (t := 54) (p := 2) rfl ?_); (try (refine gate_guard (by rfl) ?_; dsimp only)); refine Arr.loadA ?hg (T := 54) (p := 2) ?ho (g := gb279) (off := 0) ?hx (t := 54) (l := ((.bool a0_0) :: (.slice A0_1 l0_1.length c0_1) :: Arr.arL .i8 a0_2)) (m := ((.bool a0_0) :: (.slice A0_1 l0_1.length c0_1) :: Arr.arL .i8 a0_2)) (fr := (0, 0)) (show w21.heap[gb279]? = some (.cells (⟨(.bool a0_0) :: (.slice A0_1 l0_1.length c0_1) :: Arr.arL .i8 a0_2⟩ : Array Value) 54 (0, 0)) from by (with_reducible repeat (first | refine blk_drewN ?_ _ | refine blk_drew ?_ | refine blk_alloc ?_ _)); exact BK279.out) rfl Try.underlying54 rfl (n := 18) (by kernel_rfl) (by simp [Arr.arL_length]) ?_; (case hg => rfl); (case ho => rfl); (case hx => first | (go_simp; done) | rfl | (go_simp; rfl))) | ((with_reducible refine gate_callee (f := 28) rfl ?_); refine goesL_ (some 29) rfl rfl Try.func28 (by kernel_rfl) rfl #[.agg (⟨(.bool a0_0) :: (.slice A0_1 l0_1.length c0_1) :: Arr.arL .i8 a0_2⟩ : Array Value)] rfl (by (try simp only [List.map_toArray, List.map_cons, List.map_nil]); first | done | (go_simp; done) | rfl | (simp only [List.length_drop, List.length_take]; rfl)) ?_; (with_reducible refine (laws_toHalf.calls k a0_0 _ _ l0_1 a0_2 t290 t291 t294 _ ?side1 ?side2 A12.out).mono ?_); (case side1 => repeat (first | exact (Kd.C_below HR0_1.out HB.out) | (with_reducible refine Kd.C_alloc ?_ _) | (with_reducible refine Kd.C_drewN ?_ _) | (with_reducible refine Kd.C_drew ?_))); (case side2 => exact HC0_1.out); rintro e w22 ⟨v292, rfl, ho0, hb⟩; refine ⟨_, rfl, ?_⟩; have n0_ := Aside0.mk (Kd.R_elder' (by (with_reducible repeat (first | apply Kd.R_alloc | apply Kd.R_drewN | apply Kd.R_drew)); exact HO284.out) (Kd.R_base ho0) hb); have n1_ := Aside0.mk (Kd.R_below (by (with_reducible repeat (first | apply Kd.R_alloc | apply Kd.R_drewN | apply Kd.R_drew)); exact HO288.out) hb); have n2_ := Aside0.mk (Kd.R_lower (Kd.R_new' ho0 (Kd.R_lt (by (with_reducible repeat (first | apply Kd.R_alloc | apply Kd.R_drewN | apply Kd.R_drew)); exact HO284.out))) (below_size (by repeat (first | (with_reducible first | exact HB.out | apply below_alloc | apply pw_below_drewN | apply below_drew1 | refine below_set ?_ GE279.out) | exact HB.out)))); have n3_ := Aside0.mk (blk_below (g := gb279) (o := .cells (⟨(.bool a0_0) :: (.slice A0_1 l0_1.length c0_1) :: Arr.arL .i8 a0_2⟩ : Array Value) 54 (0, 0)) (by (with_reducible repeat (first | refine blk_drewN ?_ _ | refine blk_drew ?_ | refine blk_alloc ?_ _)); exact BK279.out) hb); have n4_ := Aside0.mk (below_step (by repeat (first | (with_reducible first | exact HB.out | apply below_alloc | apply pw_below_drewN | apply below_drew1 | refine below_set ?_ GE279.out) | exact HB.out)) hb); clear HO284; clear HO288; clear BK279; clear HB; have HO284 := n0_; have HO288 := n1_; have HO293 := n2_; have BK279 := n3_; have HB := n4_; clear n0_ n1_ n2_ n3_ n4_; (try clear hb); (try clear hb2); (try clear hk); (try clear hi); (try clear ho0)) | ((with_reducible refine gate_dst (N := 8) rfl ?_); refine box_event ?hg (N := 8) ?hd (cs := (⟨(.bool false) :: (.slice none 0 0) :: Arr.arL .i8 (Vector.replicate 16 0 : Vector Int 16)⟩ : Array Value)) (t := 27) ?hr ?_; (case hd => rfl); (case hg => rfl); (case hr => first | (go_simp; done) | (go_simp; rfl)); intro gb295 hg w23 hbox hb; have n0_ := Aside0.mk (Kd.R_below (by (with_reducible repeat (first | apply Kd.R_alloc | apply Kd.R_drewN | apply Kd.R_drew)); exact HO284.out) hb); have n1_ := Aside0.mk (Kd.R_below (by (with_reducible repeat (first | apply Kd.R_alloc | apply Kd.R_drewN | apply Kd.R_drew)); exact HO288.out) hb); have n2_ := Aside0.mk (Kd.R_below (by (with_reducible repeat (first | apply Kd.R_alloc | apply Kd.R_drewN | apply Kd.R_drew)); exact HO293.out) hb); have n3_ := Aside0.mk (blk_below (g := gb279) (o := .cells (⟨(.bool a0_0) :: (.slice A0_1 l0_1.length c0_1) :: Arr.arL .i8 a0_2⟩ : Array Value) 54 (0, 0)) (by (with_reducible repeat (first | refine blk_drewN ?_ _ | refine blk_drew ?_ | refine blk_alloc ?_ _)); exact BK279.out) hb); have n4_ := Aside0.mk (below_step (by repeat (first | (with_reducible first | exact HB.out | apply below_alloc | apply pw_below_drewN | apply below_drew1 | refine below_set ?_ GE279.out) | exact HB.out)) hb); have n5_ := Aside0.mk (hbox); have n6_ := Aside0.mk ((by rw [hg]; exact (below_size (by repeat (first | (with_reducible first | exact HB.out | apply below_alloc | apply pw_below_drewN | apply below_drew1 | refine below_set ?_ GE279.out) | exact HB.out))) : w.heap.size ≤ gb295)); have n7_ := Aside0.mk ((by rw [hg]; exact (below_size (by repeat (first | (with_reducible first | exact HB.out | apply below_alloc | apply pw_below_drewN | apply below_drew1 | refine below_set ?_ GE279.out) | exact HB.out))) : w.heap.size ≤ gb295)); have n8_ := Aside0.mk ((by rw [hg]; exact Nat.ne_of_lt (blk_lt (g := gb279) (o := .cells (⟨(.bool a0_0) :: (.slice A0_1 l0_1.length c0_1) :: Arr.arL .i8 a0_2⟩ : Array Value) 54 (0, 0)) (by (with_reducible repeat (first | refine blk_drewN ?_ _ | refine blk_drew ?_ | refine blk_alloc ?_ _)); exact BK279.out)) : gb279 ≠ gb295)); have n9_ := Aside0.mk ((by rw [hg]; exact Nat.ne_of_gt (blk_lt (g := gb279) (o := .cells (⟨(.bool a0_0) :: (.slice A0_1 l0_1.length c0_1) :: Arr.arL .i8 a0_2⟩ : Array Value) 54 (0, 0)) (by (with_reducible repeat (first | refine blk_drewN ?_ _ | refine blk_drew ?_ | refine blk_alloc ?_ _)); exact BK279.out)) : gb295 ≠ gb279)); clear HO284; clear HO288; clear HO293; clear BK279; clear HB; have HO284 := n0_; have HO288 := n1_; have HO293 := n2_; have BK279 := n3_; have HB := n4_; have BK295 := n5_; have GW295 := n6_; have GE295 := n7_; have NB279_295 := n8_; have NB295_279 := n9_; clear n0_ n1_ n2_ n3_ n4_ n5_ n6_ n7_ n8_ n9_; clear hb hbox hg; obtain ⟨Ao25, co25, eo25⟩ := Kd.R_slice HO293.out; subst eo25) | ((with_reducible refine gate_store (t := 27) (p := 8) rfl ?_); refine Arr.storeA ?hg (T := 27) (p := 8) (v := ?vo_w24) ?ho ?hn (g := gb295) (off := 0) ?hx (m := ((.bool t290) :: (.slice Ao25 t291.length co25) :: Arr.arL .i8 t294)) ?hy (t := 27) (pre := []) (old := ((.bool false) :: (.slice none 0 0) :: Arr.arL .i8 (Vector.replicate 16 0 : Vector Int 16))) (show w23.heap[gb295]? = some (.cells (⟨(.bool false) :: (.slice none 0 0) :: Arr.arL .i8 (Vector.replicate 16 0 : Vector Int 16)⟩ : Array Value) 27 (0, 0)) from by (with_reducible repeat (first | refine blk_drewN ?_ _ | refine blk_drew ?_ | refine blk_alloc ?_ _)); exact BK295.out) rfl (by simp [Arr.arL_length]) (n := 18) (by kernel_rfl) (by simp [Arr.arL_length]) (Arr.ones_2 rfl rfl) ?_; (case ho => rfl); (case hg => rfl); (case hn => rfl); (case hx => first | (go_simp; done) | rfl | (go_simp; rfl)); (case hy => first | (go_simp; done) | rfl | (go_simp; rfl)); intro w24 hbx hg hbe; replace hbx : w24.heap[gb295]? = some (.cells (⟨(.bool t290) :: (.slice Ao25 t291.length co25) :: Arr.arL .i8 t294⟩ : Array Value) 27 (0, 0)) := hbx; have n0_ := Aside0.mk (blk_grown (g := gb279) (o := .cells (⟨(.bool a0_0) :: (.slice A0_1 l0_1.length c0_1) :: Arr.arL .i8 a0_2⟩ : Array Value) 54 (0, 0)) (by (with_reducible repeat (first | refine blk_drewN ?_ _ | refine blk_drew ?_ | refine blk_alloc ?_ _)); exact BK279.out) hg (fun e_ => NB279_295.out (Option.some.inj e_))); have n1_ := Aside0.mk (Kd.R_grown1 (by (with_reducible repeat (first | apply Kd.R_alloc | apply Kd.R_drewN | apply Kd.R_drew)); exact HO284.out) rfl hg (Kd.R_ne HO284.out BK295.out (by decide))); have n2_ := Aside0.mk (Kd.R_grown1 (by (with_reducible repeat (first | apply Kd.R_alloc | apply Kd.R_drewN | apply Kd.R_drew)); exact HO288.out) rfl hg (Kd.R_ne HO288.out BK295.out (by decide))); have n3_ := Aside0.mk (Kd.R_grown1 (by (with_reducible repeat (first | apply Kd.R_alloc | apply Kd.R_drewN | apply Kd.R_drew)); exact HO293.out) rfl hg (Kd.R_ne HO293.out BK295.out (by decide))); have n4_ := Aside0.mk (hbx); have n5_ := Aside0.mk (hbe _ _ (by repeat (first | (with_reducible first | exact HB.out | apply below_alloc | apply pw_below_drewN | apply below_drew1 | refine below_set ?_ GE279.out | refine below_set ?_ GE295.out) | exact HB.out)) GE295.out); clear BK279; clear HO284; clear HO288; clear HO293; clear BK295; clear HB; have BK279 := n0_; have HO284 := n1_; have HO288 := n2_; have HO293 := n3_; have BK295 := n4_; have HB := n5_; clear n0_ n1_ n2_ n3_ n4_ n5_; (try clear hbx hg hbe)) | ((with_reducible refine Arr.gate_load (t := 27) (p := 8) rfl ?_); (try (refine gate_guard (by rfl) ?_; dsimp only)); refine Arr.loadA ?hg (T := 27) (p := 8) ?ho (g := gb295) (off := 0) ?hx (t := 27) (l := ((.bool t290) :: (.slice Ao25 t291.length co25) :: Arr.arL .i8 t294)) (m := ((.bool t290) :: (.slice Ao25 t291.length co25) :: Arr.arL .i8 t294)) (fr := (0, 0)) (show w24.heap[gb295]? = some (.cells (⟨(.bool t290) :: (.slice Ao25 t291.length co25) :: Arr.arL .i8 t294⟩ : Array Value) 27 (0, 0)) from by (with_reducible repeat (first | refine blk_drewN ?_ _ | refine blk_drew ?_ | refine blk_alloc ?_ _)); exact BK295.out) rfl Try.underlying27 rfl (n := 18) (by kernel_rfl) (by simp [Arr.arL_length]) ?_; (case hg => rfl); (case ho => rfl); (case hx => first | (go_simp; done) | rfl | (go_simp; rfl))) | ((with_reducible refine gate_callee (f := 31) rfl ?_); refine goesL_ (some 33) rfl rfl Try.func31 (by kernel_rfl) rfl #[.agg (⟨(.bool t290) :: (.slice Ao25 t291.length co25) :: Arr.arL .i8 t294⟩ : Array Value), .int .i64 a1] rfl (by (try simp only [List.map_toArray, List.map_cons, List.map_nil]); first | done | (go_simp; done) | rfl | (simp only [List.length_drop, List.length_take]; rfl)) ?_; (with_reducible refine (impl_RoomFor.calls k t290 _ _ t291 t294 a1 t296 t299 _ ?side1 ?side2 A15.out).mono ?_); (case side1 => repeat (first | exact (Kd.R_reads' HO293.out).2.2 | (with_reducible refine Kd.C_alloc ?_ _) | (with_reducible refine Kd.C_drewN ?_ _) | (with_reducible refine Kd.C_drew ?_))); (case side2 => exact (Kd.R_reads' HO293.out).2.1); rintro e w26 ⟨v297, rfl, ho0, hb⟩; refine ⟨_, rfl, ?_⟩; have n0_ := Aside0.mk (Kd.R_below (by (with_reducible repeat (first | apply Kd.R_alloc | apply Kd.R_drewN | apply Kd.R_drew)); exact HO284.out) hb); have n1_ := Aside0.mk (Kd.R_elder' (by (with_reducible repeat (first | apply Kd.R_alloc | apply Kd.R_drewN | apply Kd.R_drew)); exact HO288.out) (Kd.R_base ho0) hb); have n2_ := Aside0.mk (Kd.R_below (by (with_reducible repeat (first | apply Kd.R_alloc | apply Kd.R_drewN | apply Kd.R_drew)); exact HO293.out) hb); have n3_ := Aside0.mk (Kd.R_lower (Kd.R_new' ho0 (Kd.R_lt (by (with_reducible repeat (first | apply Kd.R_alloc | apply Kd.R_drewN | apply Kd.R_drew)); exact HO288.out))) (below_size (by repeat (first | (with_reducible first | exact HB.out | apply below_alloc | apply pw_below_drewN | apply below_drew1 | refine below_set ?_ GE279.out | refine below_set ?_ GE295.out) | exact HB.out)))); have n4_ := Aside0.mk (blk_below (g := gb279) (o := .cells (⟨(.bool a0_0) :: (.slice A0_1 l0_1.length c0_1) :: Arr.arL .i8 a0_2⟩ : Array Value) 54 (0, 0)) (by (with_reducible repeat (first | refine blk_drewN ?_ _ | refine blk_drew ?_ | refine blk_alloc ?_ _)); exact BK279.out) hb); have n5_ := Aside0.mk (blk_below (g := gb295) (o := .cells (⟨(.bool t290) :: (.slice Ao25 t291.length co25) :: Arr.arL .i8 t294⟩ : Array Value) 27 (0, 0)) (by (with_reducible repeat (first | refine blk_drewN ?_ _ | refine blk_drew ?_ | refine blk_alloc ?_ _)); exact BK295.out) hb); have n6_ := Aside0.mk (below_step (by repeat (first | (with_reducible first | exact HB.out | apply below_alloc | apply pw_below_drewN | apply below_drew1 | refine below_set ?_ GE279.out | refine below_set ?_ GE295.out) | exact HB.out)) hb); clear HO284; clear HO288; clear HO293; clear BK279; clear BK295; clear HB; have HO284 := n0_; have HO288 := n1_; have HO293 := n2_; have HO298 := n3_; have BK279 := n4_; have BK295 := n5_; have HB := n6_; clear n0_ n1_ n2_ n3_ n4_ n5_ n6_; (try clear hb); (try clear hb2); (try clear hk); (try clear hi); (try clear ho0)))
    (try simp only [Act.put, List.setIfInBounds_toArray, List.set_cons_zero, List.set_cons_succ])
    go_cut [44] (fun v44 wc => ∃ (kq : Nat) (x44_15 : Bool), v44 = .bool x44_15 ∧ Aside0 (laws_FnExactRoomFor.j0 kq a1 t286 t289 t296 t299 x44_15 a0_0 l0_1 a0_2 t290 t291 t294 = some r) ∧ Aside0 (kq ≤ k) ∧ Aside0 (Kd.R (Kd.int .i64) 2 wc w.heap.size (fun k_ => some k_ ≠ (v297 : Value).ownBlock) v287 t286) ∧ Aside0 (Kd.R (Kd.int .i64) 2 wc w.heap.size (fun k_ => some k_ ≠ (v287 : Value).ownBlock) v297 t296) ∧ Aside0 (Kd.R k71 71 wc w.heap.size (fun _ => True) (.slice Ao25 t291.length co25) t291) ∧ Aside0 (wc.heap[gb279]? = some (.cells (⟨(.bool a0_0) :: ((.slice A0_1 l0_1.length c0_1)) :: Arr.arL .i8 a0_2⟩ : Array Value) 54 (0, 0))) ∧ Aside0 (wc.heap[gb295]? = some (.cells (⟨(.bool t290) :: ((.slice Ao25 t291.length co25)) :: Arr.arL .i8 t294⟩ : Array Value) 27 (0, 0))) ∧ Aside0 (Below w.heap.size w wc))
    case first =>
      have H := HC16.out
      clear HC16
      replace H := Option.bind_eq_some_iff.mp H
      obtain ⟨t300, A270, H⟩ := H
      replace H : (if t300 = true then (laws_FnExactRoomFor.j0 k a1 t286 t289 t296 t299 (t299 != t289) a0_0 l0_1 a0_2 t290 t291 t294) else (laws_FnExactRoomFor.j0 k a1 t286 t289 t296 t299 true a0_0 l0_1 a0_2 t290 t291 t294)) = some r := H
      have A27 := Aside0.mk A270
      clear A270
      by_cases c28 : t300 = true
      · subst c28
        have H1 : (laws_FnExactRoomFor.j0 k a1 t286 t289 t296 t299 (t299 != t289) a0_0 l0_1 a0_2 t290 t291 t294) = some r := by rw [if_pos rfl] at H; exact H
        clear H
        have H := H1
        clear H1
        have H' := Aside0.mk H
        clear H
        obtain ⟨Ao29, co29, eo29⟩ := Kd.R_slice HO298.out
        subst eo29
        obtain ⟨Ao30, co30, eo30⟩ := Kd.R_slice HO288.out
        subst eo30
        go_wp2_with (first | ((with_reducible refine gate_callee (f := 32) rfl ?_); refine goesL_ (some 38) rfl rfl Try.func32 (by kernel_rfl) rfl #[.slice Ao29 t296.length co29, .slice Ao30 t286.length co30] rfl (by (try simp only [List.map_toArray, List.map_cons, List.map_nil]); first | done | (go_simp; done) | rfl | (simp only [List.length_drop, List.length_take]; rfl)) ?_; (with_reducible refine (laws_eqInt64S.calls k _ _ t296 _ _ t286 true _ ?side1 ?side2 ?side3 ?side4 A27.out).mono ?_); (case side1 => repeat (first | exact (Kd.R_reads' HO298.out).2.2 | (with_reducible refine Kd.C_alloc ?_ _) | (with_reducible refine Kd.C_drewN ?_ _) | (with_reducible refine Kd.C_drew ?_))); (case side2 => exact (Kd.R_reads' HO298.out).2.1); (case side3 => repeat (first | exact (Kd.R_reads' HO288.out).2.2 | (with_reducible refine Kd.C_alloc ?_ _) | (with_reducible refine Kd.C_drewN ?_ _) | (with_reducible refine Kd.C_drew ?_))); (case side4 => exact (Kd.R_reads' HO288.out).2.1); rintro e w' ⟨rfl, ⟨nd, rfl⟩⟩; refine ⟨_, rfl, ?_⟩))
        go_meet
        case rel => exact ⟨_, ((t299 != t289)), (by first | rfl | (simp; done) | (simp [*]; done)), H', ⟨by first | omega | exact Nat.le_refl _⟩, ⟨by (with_reducible repeat (first | apply Kd.R_alloc | apply Kd.R_drewN | apply Kd.R_drew)); exact Kd.R_mono HO288.out (fun _ hk => hk.2)⟩, ⟨by (with_reducible repeat (first | apply Kd.R_alloc | apply Kd.R_drewN | apply Kd.R_drew)); exact Kd.R_mono HO298.out (fun _ hk => hk.2)⟩, ⟨by (with_reducible repeat (first | apply Kd.R_alloc | apply Kd.R_drewN | apply Kd.R_drew)); exact Kd.R_mono HO293.out (fun _ hk => trivial)⟩, ⟨by (with_reducible repeat (first | refine blk_drewN ?_ _ | refine blk_drew ?_ | refine blk_alloc ?_ _)); exact BK279.out⟩, ⟨by (with_reducible repeat (first | refine blk_drewN ?_ _ | refine blk_drew ?_ | refine blk_alloc ?_ _)); exact BK295.out⟩, ⟨by repeat (first | (with_reducible first | exact HB.out | apply below_alloc | apply pw_below_drewN | apply below_drew1 | refine below_set ?_ GE279.out | refine below_set ?_ GE295.out) | exact HB.out)⟩⟩
      · replace c28 := Bool.eq_false_iff.mpr c28
        subst c28
        have H1 : (laws_FnExactRoomFor.j0 k a1 t286 t289 t296 t299 true a0_0 l0_1 a0_2 t290 t291 t294) = some r := by rw [if_neg (show ¬ (false = true) by decide)] at H; exact H
        clear H
        have H := H1
        clear H1
        have H' := Aside0.mk H
        clear H
        obtain ⟨Ao31, co31, eo31⟩ := Kd.R_slice HO298.out
        subst eo31
        obtain ⟨Ao32, co32, eo32⟩ := Kd.R_slice HO288.out
        subst eo32
        go_wp2_with (first | ((with_reducible refine gate_callee (f := 32) rfl ?_); refine goesL_ (some 38) rfl rfl Try.func32 (by kernel_rfl) rfl #[.slice Ao31 t296.length co31, .slice Ao32 t286.length co32] rfl (by (try simp only [List.map_toArray, List.map_cons, List.map_nil]); first | done | (go_simp; done) | rfl | (simp only [List.length_drop, List.length_take]; rfl)) ?_; (with_reducible refine (laws_eqInt64S.calls k _ _ t296 _ _ t286 false _ ?side1 ?side2 ?side3 ?side4 A27.out).mono ?_); (case side1 => repeat (first | exact (Kd.R_reads' HO298.out).2.2 | (with_reducible refine Kd.C_alloc ?_ _) | (with_reducible refine Kd.C_drewN ?_ _) | (with_reducible refine Kd.C_drew ?_))); (case side2 => exact (Kd.R_reads' HO298.out).2.1); (case side3 => repeat (first | exact (Kd.R_reads' HO288.out).2.2 | (with_reducible refine Kd.C_alloc ?_ _) | (with_reducible refine Kd.C_drewN ?_ _) | (with_reducible refine Kd.C_drew ?_))); (case side4 => exact (Kd.R_reads' HO288.out).2.1); rintro e w' ⟨rfl, ⟨nd, rfl⟩⟩; refine ⟨_, rfl, ?_⟩))
        go_meet
        case rel => exact ⟨_, (true), (by first | rfl | (simp; done) | (simp [*]; done)), H', ⟨by first | omega | exact Nat.le_refl _⟩, ⟨by (with_reducible repeat (first | apply Kd.R_alloc | apply Kd.R_drewN | apply Kd.R_drew)); exact Kd.R_mono HO288.out (fun _ hk => hk.2)⟩, ⟨by (with_reducible repeat (first | apply Kd.R_alloc | apply Kd.R_drewN | apply Kd.R_drew)); exact Kd.R_mono HO298.out (fun _ hk => hk.2)⟩, ⟨by (with_reducible repeat (first | apply Kd.R_alloc | apply Kd.R_drewN | apply Kd.R_drew)); exact Kd.R_mono HO293.out (fun _ hk => trivial)⟩, ⟨by (with_reducible repeat (first | refine blk_drewN ?_ _ | refine blk_drew ?_ | refine blk_alloc ?_ _)); exact BK279.out⟩, ⟨by (with_reducible repeat (first | refine blk_drewN ?_ _ | refine blk_drew ?_ | refine blk_alloc ?_ _)); exact BK295.out⟩, ⟨by repeat (first | (with_reducible first | exact HB.out | apply below_alloc | apply pw_below_drewN | apply below_drew1 | refine below_set ?_ GE279.out | refine below_set ?_ GE295.out) | exact HB.out)⟩⟩
    case rest =>
      clear HC16
      try clear c2
      try clear p2
      try clear c3
      try clear c5
      try clear c5b0
      try clear c6
      try clear c26
      try clear c28
      try clear c30
      try clear c31
      try clear c32
      obtain ⟨kq, x44_15, rfl, HA, HJ15, HO_6, HO_9, HO_296001, BK279, BK295, HB⟩ := hcut
      cases kq with
      | zero => exact absurd HA.out (by simp [laws_FnExactRoomFor.j0])
      | succ kj15 =>
        have H := HA.out
        clear HA
        simp only [laws_FnExactRoomFor.j0] at H
        by_cases c33 : x44_15 = true
        · subst c33
          have H1 : (some false) = some r := by rw [if_pos rfl] at H; exact H
          clear H
          have H := H1
          clear H1
          obtain rfl := Option.some.inj H
          cases ht
        · replace c33 := Bool.eq_false_iff.mpr c33
          subst c33
          have H1 : ((laws_toHalf.f kj15 a0_0 l0_1 a0_2).bind fun bt301 => ((laws_eqHalf.f kj15 t290 t291 t294 bt301.1 bt301.2.1 bt301.2.2).bind fun t306 => (if t306 = true then ((laws_markHalf.f kj15 t290 t291 t294 1).bind fun bt307 => (if bt307.1 < 0 then (laws_FnExactRoomFor.j1 kj15 a1 t286 t289 t296 true a0_0 l0_1 a0_2) else ((laws_eqInt64S.f kj15 t296 t286).bind fun t309 => (if t309 = true then (laws_FnExactRoomFor.j1 kj15 a1 t286 t289 t296 (t299 != t289) a0_0 l0_1 a0_2) else (laws_FnExactRoomFor.j1 kj15 a1 t286 t289 t296 true a0_0 l0_1 a0_2))))) else (some false)))) = some r := by rw [if_neg (show ¬ (false = true) by decide)] at H; exact H
          clear H
          have H := H1
          clear H1
          replace H := Option.bind_eq_some_iff.mp H
          obtain ⟨⟨t301, t302, t305⟩, A360, H⟩ := H
          replace H : ((laws_eqHalf.f kj15 t290 t291 t294 t301 t302 t305).bind fun t306 => (if t306 = true then ((laws_markHalf.f kj15 t290 t291 t294 1).bind fun bt307 => (if bt307.1 < 0 then (laws_FnExactRoomFor.j1 kj15 a1 t286 t289 t296 true a0_0 l0_1 a0_2) else ((laws_eqInt64S.f kj15 t296 t286).bind fun t309 => (if t309 = true then (laws_FnExactRoomFor.j1 kj15 a1 t286 t289 t296 (t299 != t289) a0_0 l0_1 a0_2) else (laws_FnExactRoomFor.j1 kj15 a1 t286 t289 t296 true a0_0 l0_1 a0_2))))) else (some false))) = some r := H
          have A36 := Aside0.mk A360
          clear A360
          replace H := Option.bind_eq_some_iff.mp H
          obtain ⟨t306, A370, H⟩ := H
          replace H : (if t306 = true then ((laws_markHalf.f kj15 t290 t291 t294 1).bind fun bt307 => (if bt307.1 < 0 then (laws_FnExactRoomFor.j1 kj15 a1 t286 t289 t296 true a0_0 l0_1 a0_2) else ((laws_eqInt64S.f kj15 t296 t286).bind fun t309 => (if t309 = true then (laws_FnExactRoomFor.j1 kj15 a1 t286 t289 t296 (t299 != t289) a0_0 l0_1 a0_2) else (laws_FnExactRoomFor.j1 kj15 a1 t286 t289 t296 true a0_0 l0_1 a0_2))))) else (some false)) = some r := H
          have A37 := Aside0.mk A370
          clear A370
          by_cases c38 : t306 = true
          · subst c38
            have H1 : ((laws_markHalf.f kj15 t290 t291 t294 1).bind fun bt307 => (if bt307.1 < 0 then (laws_FnExactRoomFor.j1 kj15 a1 t286 t289 t296 true a0_0 l0_1 a0_2) else ((laws_eqInt64S.f kj15 t296 t286).bind fun t309 => (if t309 = true then (laws_FnExactRoomFor.j1 kj15 a1 t286 t289 t296 (t299 != t289) a0_0 l0_1 a0_2) else (laws_FnExactRoomFor.j1 kj15 a1 t286 t289 t296 true a0_0 l0_1 a0_2))))) = some r := by rw [if_pos rfl] at H; exact H
            clear H
            have H := H1
            clear H1
            replace H := Option.bind_eq_some_iff.mp H
            obtain ⟨⟨t307, t308⟩, A400, H⟩ := H
            replace H : (if t307 < 0 then (laws_FnExactRoomFor.j1 kj15 a1 t286 t289 t296 true a0_0 l0_1 a0_2) else ((laws_eqInt64S.f kj15 t296 t286).bind fun t309 => (if t309 = true then (laws_FnExactRoomFor.j1 kj15 a1 t286 t289 t296 (t299 != t289) a0_0 l0_1 a0_2) else (laws_FnExactRoomFor.j1 kj15 a1 t286 t289 t296 true a0_0 l0_1 a0_2)))) = some r := H
            have A40 := Aside0.mk A400
            clear A400
            have HC41 := Aside0.mk H
            clear H
            try go_wp2
            have n0_ := Aside0.mk (Kd.R_drew HO_6.out)
            have n1_ := Aside0.mk (Kd.R_drew HO_9.out)
            have n2_ := Aside0.mk (Kd.R_drew HO_296001.out)
            have n3_ := Aside0.mk (blk_drew BK279.out)
            have n4_ := Aside0.mk (blk_drew BK295.out)
            have n5_ := Aside0.mk (below_drew1 HB.out)
            clear HO_6
            clear HO_9
            clear HO_296001
            clear BK279
            clear BK295
            clear HB
            have HO_6 := n0_
            have HO_9 := n1_
            have HO_296001 := n2_
            have BK279 := n3_
            have BK295 := n4_
            have HB := n5_
            clear n0_ n1_ n2_ n3_ n4_ n5_
            refine start_ (n := 5) (S := fun w' => w'.heap[gb295]? = some (.cells (⟨(.bool t290) :: (.slice Ao25 t291.length co25) :: Arr.arL .i8 t294⟩ : Array Value) 27 (0, 0)) ∧ w'.heap[gb279]? = some (.cells (⟨(.bool a0_0) :: (.slice A0_1 l0_1.length c0_1) :: Arr.arL .i8 a0_2⟩ : Array Value) 54 (0, 0))) (ds := []) #[false, false, false, false, false] (by kernel_rfl) rfl rfl ⟨BK295.out, BK279.out⟩ (fun hHeld => ?_)
            generalize wc.drew = w42 at HO_6 HO_9 HO_296001 BK279 BK295 HB hHeld ⊢
            refine take_ (i := 0) (N := some 45) (v := ?_) (a' := ?_) #[true, false, false, false, false] rfl rfl (by kernel_rfl) (fun _ _ _ h => h) (Or.inl ⟨by rfl, ?_⟩) hHeld ?_ ?_
            rotate_left
            · rintro w' ⟨s0, s1⟩
              refine Arr.exec_load (T := 27) (p := 8) (g := gb295) (off := 0) (t := 27) (l := ((.bool t290) :: (.slice Ao25 t291.length co25) :: Arr.arL .i8 t294)) (m := ((.bool t290) :: (.slice Ao25 t291.length co25) :: Arr.arL .i8 t294)) (fr := (0, 0)) (n := 18) ?_ ?_ s0 ?_ Try.underlying27 ?_ ?_ ?_
              · rfl
              · first | (go_simp; done) | rfl | (go_simp; rfl)
              · rfl
              · rfl
              · kernel_rfl
              · simp [Arr.arL_length]
            rotate_left
            · simp only [Act.put, List.setIfInBounds_toArray, List.set_cons_zero, List.set_cons_succ, i64_w, i32_w]
              rfl
            refine take_ (i := 1) (N := some 46) (v := ?_) (a' := ?_) #[true, true, false, false, false] rfl rfl (by kernel_rfl) (fun _ _ _ h => h) (Or.inl ⟨by rfl, ?_⟩) hHeld ?_ ?_
            rotate_left
            · rintro w' ⟨s0, s1⟩
              refine Arr.exec_load (T := 54) (p := 2) (g := gb279) (off := 0) (t := 54) (l := ((.bool a0_0) :: (.slice A0_1 l0_1.length c0_1) :: Arr.arL .i8 a0_2)) (m := ((.bool a0_0) :: (.slice A0_1 l0_1.length c0_1) :: Arr.arL .i8 a0_2)) (fr := (0, 0)) (n := 18) ?_ ?_ s1 ?_ Try.underlying54 ?_ ?_ ?_
              · rfl
              · first | (go_simp; done) | rfl | (go_simp; rfl)
              · rfl
              · rfl
              · kernel_rfl
              · simp [Arr.arL_length]
            rotate_left
            · simp only [Act.put, List.setIfInBounds_toArray, List.set_cons_zero, List.set_cons_succ, i64_w, i32_w]
              rfl
            refine one_ (i := 2) (N := some 47) #[true, true, true, false, false] rfl rfl (by kernel_rfl) (by decide) (fun K hK => ?_)
            refine goes_ Try.func28 (by kernel_rfl) rfl #[.agg (⟨(.bool a0_0) :: (.slice A0_1 l0_1.length c0_1) :: Arr.arL .i8 a0_2⟩ : Array Value)] (by rfl) rfl rfl (by (try simp only [List.map_toArray, List.map_cons, List.map_nil]); first | done | (go_simp; done) | rfl | (simp only [List.length_drop, List.length_take]; rfl)) ?_
            with_reducible refine (laws_toHalf.calls kj15 a0_0 _ _ l0_1 a0_2 t301 t302 t305 _ ?side1 ?side2 A36.out).mono ?_
            (case side1 => repeat (first | exact (Kd.C_below HR0_1.out HB.out) | (with_reducible refine Kd.C_alloc ?_ _) | (with_reducible refine Kd.C_drewN ?_ _) | (with_reducible refine Kd.C_drew ?_)))
            (case side2 => exact HC0_1.out)
            rintro e w43 ⟨v303, rfl, ho0, hb⟩
            refine ⟨_, rfl, ?_⟩
            have n0_ := Aside0.mk (Kd.R_below (by (with_reducible repeat (first | apply Kd.R_alloc | apply Kd.R_drewN | apply Kd.R_drew)); exact HO_6.out) hb)
            have n1_ := Aside0.mk (Kd.R_below (by (with_reducible repeat (first | apply Kd.R_alloc | apply Kd.R_drewN | apply Kd.R_drew)); exact HO_9.out) hb)
            have n2_ := Aside0.mk (Kd.R_elder' (by (with_reducible repeat (first | apply Kd.R_alloc | apply Kd.R_drewN | apply Kd.R_drew)); exact HO_296001.out) (Kd.R_base ho0) hb)
            have n3_ := Aside0.mk (Kd.R_lower (Kd.R_new' ho0 (Kd.R_lt (by (with_reducible repeat (first | apply Kd.R_alloc | apply Kd.R_drewN | apply Kd.R_drew)); exact HO_296001.out))) (below_size (by repeat (first | (with_reducible first | exact HB.out | apply below_alloc | apply pw_below_drewN | apply below_drew1 | refine below_set ?_ GE279.out | refine below_set ?_ GE295.out) | exact HB.out))))
            have n4_ := Aside0.mk (blk_below (g := gb279) (o := .cells (⟨(.bool a0_0) :: (.slice A0_1 l0_1.length c0_1) :: Arr.arL .i8 a0_2⟩ : Array Value) 54 (0, 0)) (by (with_reducible repeat (first | refine blk_drewN ?_ _ | refine blk_drew ?_ | refine blk_alloc ?_ _)); exact BK279.out) hb)
            have n5_ := Aside0.mk (blk_below (g := gb295) (o := .cells (⟨(.bool t290) :: (.slice Ao25 t291.length co25) :: Arr.arL .i8 t294⟩ : Array Value) 27 (0, 0)) (by (with_reducible repeat (first | refine blk_drewN ?_ _ | refine blk_drew ?_ | refine blk_alloc ?_ _)); exact BK295.out) hb)
            have n6_ := Aside0.mk (below_step (by repeat (first | (with_reducible first | exact HB.out | apply below_alloc | apply pw_below_drewN | apply below_drew1 | refine below_set ?_ GE279.out | refine below_set ?_ GE295.out) | exact HB.out)) hb)
            clear HO_6
            clear HO_9
            clear HO_296001
            clear BK279
            clear BK295
            clear HB
            have HO_6 := n0_
            have HO_9 := n1_
            have HO_296001 := n2_
            have HO304 := n3_
            have BK279 := n4_
            have BK295 := n5_
            have HB := n6_
            clear n0_ n1_ n2_ n3_ n4_ n5_ n6_
            (try clear hb)
            (try clear hb2)
            (try clear hk)
            (try clear hi)
            (try clear ho0)
            obtain ⟨Ao44, co44, eo44⟩ := Kd.R_slice HO304.out
            (first | subst eo44 | (injection eo44 with f1_ f2_ f3_; have f4_ := f1_.symm; have f5_ := f3_.symm; clear f1_ f2_ f3_; subst f4_; subst f5_))
            refine hK.out _ _ ⟨BK295.out, BK279.out⟩ (fun hHeld => ?_)
            clear hK K
            refine norm_ (a' := ?_) ?_ ?_
            rotate_left
            · show Act.put _ (some 47) _ = _
              simp only [Act.put, List.setIfInBounds_toArray, List.set_cons_zero, List.set_cons_succ, i64_w, i32_w]
              rfl
            refine one_ (i := 3) (N := some 48) #[true, true, true, true, false] rfl rfl (by kernel_rfl) (by decide) (fun K hK => ?_)
            refine goes_ Try.func10 (by kernel_rfl) rfl #[.agg (⟨(.bool t290) :: (.slice Ao25 t291.length co25) :: Arr.arL .i8 t294⟩ : Array Value), .agg (⟨(.bool t301) :: (.slice Ao44 t302.length co44) :: Arr.arL .i8 t305⟩ : Array Value)] (by rfl) rfl rfl (by (try simp only [List.map_toArray, List.map_cons, List.map_nil]); first | done | (go_simp; done) | rfl | (simp only [List.length_drop, List.length_take]; rfl)) ?_
            with_reducible refine (laws_eqHalf.calls kj15 t290 _ _ t291 t294 t301 _ _ t302 t305 true _ ?side1 ?side2 ?side3 ?side4 A37.out).mono ?_
            (case side1 => repeat (first | exact (Kd.R_reads' HO_296001.out).2.2 | (with_reducible refine Kd.C_alloc ?_ _) | (with_reducible refine Kd.C_drewN ?_ _) | (with_reducible refine Kd.C_drew ?_)))
            (case side2 => exact (Kd.R_reads' HO_296001.out).2.1)
            (case side3 => repeat (first | exact (Kd.R_reads' HO304.out).2.2 | (with_reducible refine Kd.C_alloc ?_ _) | (with_reducible refine Kd.C_drewN ?_ _) | (with_reducible refine Kd.C_drew ?_)))
            (case side4 => exact (Kd.R_reads' HO304.out).2.1)
            rintro e w45 ⟨rfl, hb⟩
            refine ⟨_, rfl, ?_⟩
            have n0_ := Aside0.mk (Kd.R_below (by (with_reducible repeat (first | apply Kd.R_alloc | apply Kd.R_drewN | apply Kd.R_drew)); exact HO_6.out) hb)
            have n1_ := Aside0.mk (Kd.R_below (by (with_reducible repeat (first | apply Kd.R_alloc | apply Kd.R_drewN | apply Kd.R_drew)); exact HO_9.out) hb)
            have n2_ := Aside0.mk (Kd.R_below (by (with_reducible repeat (first | apply Kd.R_alloc | apply Kd.R_drewN | apply Kd.R_drew)); exact HO_296001.out) hb)
            have n3_ := Aside0.mk (Kd.R_below (by (with_reducible repeat (first | apply Kd.R_alloc | apply Kd.R_drewN | apply Kd.R_drew)); exact HO304.out) hb)
            have n4_ := Aside0.mk (blk_below (g := gb279) (o := .cells (⟨(.bool a0_0) :: (.slice A0_1 l0_1.length c0_1) :: Arr.arL .i8 a0_2⟩ : Array Value) 54 (0, 0)) (by (with_reducible repeat (first | refine blk_drewN ?_ _ | refine blk_drew ?_ | refine blk_alloc ?_ _)); exact BK279.out) hb)
            have n5_ := Aside0.mk (blk_below (g := gb295) (o := .cells (⟨(.bool t290) :: (.slice Ao25 t291.length co25) :: Arr.arL .i8 t294⟩ : Array Value) 27 (0, 0)) (by (with_reducible repeat (first | refine blk_drewN ?_ _ | refine blk_drew ?_ | refine blk_alloc ?_ _)); exact BK295.out) hb)
            have n6_ := Aside0.mk (below_step (by repeat (first | (with_reducible first | exact HB.out | apply below_alloc | apply pw_below_drewN | apply below_drew1 | refine below_set ?_ GE279.out | refine below_set ?_ GE295.out) | exact HB.out)) hb)
            clear HO_6
            clear HO_9
            clear HO_296001
            clear HO304
            clear BK279
            clear BK295
            clear HB
            have HO_6 := n0_
            have HO_9 := n1_
            have HO_296001 := n2_
            have HO304 := n3_
            have BK279 := n4_
            have BK295 := n5_
            have HB := n6_
            clear n0_ n1_ n2_ n3_ n4_ n5_ n6_
            (try clear hb)
            (try clear hb2)
            (try clear hk)
            (try clear hi)
            refine hK.out _ _ ⟨BK295.out, BK279.out⟩ (fun hHeld => ?_)
            clear hK K
            refine norm_ (a' := ?_) ?_ ?_
            rotate_left
            · show Act.put _ (some 48) _ = _
              simp only [Act.put, List.setIfInBounds_toArray, List.set_cons_zero, List.set_cons_succ, i64_w, i32_w]
              rfl
            refine pure_ (i := 4) (N := some 49) (v := ?_) (a' := ?_) #[true, true, true, true, true] rfl rfl (by kernel_rfl) (fun _ _ _ h => h) (Or.inl ⟨by rfl, ?_⟩) ?_ ?_
            rotate_left
            · intro w'
              go_simp
              with_reducible rfl
            rotate_left
            · simp only [Act.put, List.setIfInBounds_toArray, List.set_cons_zero, List.set_cons_succ, i64_w, i32_w]
              rfl
            refine done_ (by kernel_rfl) ?_
            go_upto_region 14 with (first | ((with_reducible refine Arr.gate_load (t := 27) (p := 8) rfl ?_); (try (refine gate_guard (by rfl) ?_; dsimp only)); refine Arr.loadA ?hg (T := 27) (p := 8) ?ho (g := gb295) (off := 0) ?hx (t := 27) (l := ((.bool t290) :: (.slice Ao25 t291.length co25) :: Arr.arL .i8 t294)) (m := ((.bool t290) :: (.slice Ao25 t291.length co25) :: Arr.arL .i8 t294)) (fr := (0, 0)) (show w45.heap[gb295]? = some (.cells (⟨(.bool t290) :: (.slice Ao25 t291.length co25) :: Arr.arL .i8 t294⟩ : Array Value) 27 (0, 0)) from by (with_reducible repeat (first | refine blk_drewN ?_ _ | refine blk_drew ?_ | refine blk_alloc ?_ _)); exact BK295.out) rfl Try.underlying27 rfl (n := 18) (by kernel_rfl) (by simp [Arr.arL_length]) ?_; (case hg => rfl); (case ho => rfl); (case hx => first | (go_simp; done) | rfl | (go_simp; rfl))) | ((with_reducible refine gate_callee (f := 11) rfl ?_); refine goesL_ (some 52) rfl rfl Try.func11 (by kernel_rfl) rfl #[.agg (⟨(.bool t290) :: (.slice Ao25 t291.length co25) :: Arr.arL .i8 t294⟩ : Array Value), .int .i64 1] rfl (by (try simp only [List.map_toArray, List.map_cons, List.map_nil]); first | done | (go_simp; done) | rfl | (simp only [List.length_drop, List.length_take]; rfl)) ?_; (with_reducible refine (laws_markHalf.calls kj15 t290 (fun k_ => some k_ = (.slice Ao25 t291.length co25 : Value).ownBlock) (.slice Ao25 t291.length co25) t291 t294 1 t307 t308 w _ ?side1 ?side2 A40.out).mono ?_); (case side1 => repeat (first | (with_reducible first | exact HB.out | apply below_alloc | apply pw_below_drewN | apply below_drew1 | refine below_set ?_ GE279.out | refine below_set ?_ GE295.out) | exact HB.out)); (case side2 => exact Kd.R_tight rfl HO_296001.out); rintro e w46 ⟨rfl, hy0, hb, hkp⟩; refine ⟨_, rfl, ?_⟩; have n0_ := Aside0.mk (Kd.R_mono (ok' := fun k_ => some k_ ≠ (v297 : Value).ownBlock) (Kd.R_keptB ((Kd.R_apart' HO_6.out (Kd.R_typed HO_296001.out) (by decide))) hkp (fun k_ hk_ hs_ => (hk_.2) hs_)) (fun k_ hk_ => hk_.1.1)); have n1_ := Aside0.mk (Kd.R_mono (ok' := fun k_ => some k_ ≠ (v287 : Value).ownBlock) (Kd.R_keptB ((Kd.R_apart' HO_9.out (Kd.R_typed HO_296001.out) (by decide))) hkp (fun k_ hk_ hs_ => (hk_.2) hs_)) (fun k_ hk_ => hk_.1.1)); have n2_ := Aside0.mk (Kd.R_reok rfl hy0 (fun k_ e_ => HO_296001.out.1 k_ e_)); have n3_ := Aside0.mk (blk_kept (by (with_reducible repeat (first | refine blk_drewN ?_ _ | refine blk_drew ?_ | refine blk_alloc ?_ _)); exact BK279.out) hkp (fun hs_ => (fun e_ => (Kd.R_ne HO_296001.out BK279.out (by decide)) e_) hs_)); have n4_ := Aside0.mk (blk_kept (by (with_reducible repeat (first | refine blk_drewN ?_ _ | refine blk_drew ?_ | refine blk_alloc ?_ _)); exact BK295.out) hkp (fun hs_ => (fun e_ => (Kd.R_ne HO_296001.out BK295.out (by decide)) e_) hs_)); have n5_ := Aside0.mk (Kd.R_mono (ok' := fun k_ => some k_ ≠ (.slice Ao25 t291.length co25 : Value).ownBlock) (Kd.R_keptB (HO304.out) hkp (fun k_ hk_ hs_ => (hk_.2) hs_)) (fun k_ hk_ => hk_.1.2)); have n6_ := Aside0.mk (hb); clear HO_6; clear HO_9; clear HO_296001; clear BK279; clear BK295; clear HO304; clear HB; have HO_6 := n0_; have HO_9 := n1_; have HO_296001 := n2_; have BK279 := n3_; have BK295 := n4_; have HO304 := n5_; have HB := n6_; clear n0_ n1_ n2_ n3_ n4_ n5_ n6_; (try clear hb); (try clear hkp); (try clear hy0)))
            (try simp only [Act.put, List.setIfInBounds_toArray, List.set_cons_zero, List.set_cons_succ])
            go_cut [65] (fun v65 wc => ∃ (kq : Nat) (x65_40 : Bool), v65 = .bool x65_40 ∧ Aside0 (laws_FnExactRoomFor.j1 kq a1 t286 t289 t296 x65_40 a0_0 l0_1 a0_2 = some r) ∧ Aside0 (kq ≤ kj15) ∧ Aside0 (Kd.R (Kd.int .i64) 2 wc w.heap.size (fun k_ => some k_ ≠ (v297 : Value).ownBlock) v287 t286) ∧ Aside0 (Kd.R (Kd.int .i64) 2 wc w.heap.size (fun k_ => some k_ ≠ (v287 : Value).ownBlock) v297 t296) ∧ Aside0 (Kd.R k71 71 wc w.heap.size (fun _ => True) (.slice Ao25 t291.length co25) t308) ∧ Aside0 (wc.heap[gb279]? = some (.cells (⟨(.bool a0_0) :: ((.slice A0_1 l0_1.length c0_1)) :: Arr.arL .i8 a0_2⟩ : Array Value) 54 (0, 0))) ∧ Aside0 (wc.heap[gb295]? = some (.cells (⟨(.bool t290) :: ((.slice Ao25 t291.length co25)) :: Arr.arL .i8 t294⟩ : Array Value) 27 (0, 0))) ∧ Aside0 (Below w.heap.size w wc))
            case first =>
              have H := HC41.out
              clear HC41
              by_cases c47 : t307 < 0
              · rw [if_pos c47] at H
                have c47b0 : decide (t307 < 0) = true := decide_eq_true c47
                clear c47
                (first | rw [c47b0] | (simp only [i64_w, i32_w]; rw [c47b0]) | skip)
                have H' := Aside0.mk H
                clear H
                go_wp2
                go_meet
                case rel => exact ⟨_, (true), (by first | rfl | (simp; done) | (simp [*]; done)), H', ⟨by have := HJ15.out; first | omega | exact Nat.le_refl _⟩, ⟨by (with_reducible repeat (first | apply Kd.R_alloc | apply Kd.R_drewN | apply Kd.R_drew)); exact HO_6.out⟩, ⟨by (with_reducible repeat (first | apply Kd.R_alloc | apply Kd.R_drewN | apply Kd.R_drew)); exact HO_9.out⟩, ⟨by (with_reducible repeat (first | apply Kd.R_alloc | apply Kd.R_drewN | apply Kd.R_drew)); exact Kd.R_mono HO_296001.out (fun _ hk => trivial)⟩, ⟨by (with_reducible repeat (first | refine blk_drewN ?_ _ | refine blk_drew ?_ | refine blk_alloc ?_ _)); exact BK279.out⟩, ⟨by (with_reducible repeat (first | refine blk_drewN ?_ _ | refine blk_drew ?_ | refine blk_alloc ?_ _)); exact BK295.out⟩, ⟨by repeat (first | (with_reducible first | exact HB.out | apply below_alloc | apply pw_below_drewN | apply below_drew1 | refine below_set ?_ GE279.out | refine below_set ?_ GE295.out) | exact HB.out)⟩⟩
              · rw [if_neg c47] at H
                have c47b0 : decide (t307 < 0) = false := decide_eq_false c47
                clear c47
                (first | rw [c47b0] | (simp only [i64_w, i32_w]; rw [c47b0]) | skip)
                replace H := Option.bind_eq_some_iff.mp H
                obtain ⟨t309, A480, H⟩ := H
                replace H : (if t309 = true then (laws_FnExactRoomFor.j1 kj15 a1 t286 t289 t296 (t299 != t289) a0_0 l0_1 a0_2) else (laws_FnExactRoomFor.j1 kj15 a1 t286 t289 t296 true a0_0 l0_1 a0_2)) = some r := H
                have A48 := Aside0.mk A480
                clear A480
                by_cases c49 : t309 = true
                · subst c49
                  have H1 : (laws_FnExactRoomFor.j1 kj15 a1 t286 t289 t296 (t299 != t289) a0_0 l0_1 a0_2) = some r := by rw [if_pos rfl] at H; exact H
                  clear H
                  have H := H1
                  clear H1
                  have H' := Aside0.mk H
                  clear H
                  obtain ⟨Ao50, co50, eo50⟩ := Kd.R_slice HO_9.out
                  subst eo50
                  obtain ⟨Ao51, co51, eo51⟩ := Kd.R_slice HO_6.out
                  subst eo51
                  go_wp2_with (first | (go_at_call 32; (with_reducible refine (laws_eqInt64S.calls kj15 _ _ t296 _ _ t286 true _ ?side1 ?side2 ?side3 ?side4 A48.out).mono ?_); (case side1 => repeat (first | exact (Kd.R_reads' HO_9.out).2.2 | (with_reducible refine Kd.C_alloc ?_ _) | (with_reducible refine Kd.C_drewN ?_ _) | (with_reducible refine Kd.C_drew ?_))); (case side2 => exact (Kd.R_reads' HO_9.out).2.1); (case side3 => repeat (first | exact (Kd.R_reads' HO_6.out).2.2 | (with_reducible refine Kd.C_alloc ?_ _) | (with_reducible refine Kd.C_drewN ?_ _) | (with_reducible refine Kd.C_drew ?_))); (case side4 => exact (Kd.R_reads' HO_6.out).2.1); rintro e w' ⟨rfl, ⟨nd, rfl⟩⟩))
                  go_meet
                  case rel => exact ⟨_, ((t299 != t289)), (by first | rfl | (simp; done) | (simp [*]; done)), H', ⟨by have := HJ15.out; first | omega | exact Nat.le_refl _⟩, ⟨by (with_reducible repeat (first | apply Kd.R_alloc | apply Kd.R_drewN | apply Kd.R_drew)); exact HO_6.out⟩, ⟨by (with_reducible repeat (first | apply Kd.R_alloc | apply Kd.R_drewN | apply Kd.R_drew)); exact HO_9.out⟩, ⟨by (with_reducible repeat (first | apply Kd.R_alloc | apply Kd.R_drewN | apply Kd.R_drew)); exact Kd.R_mono HO_296001.out (fun _ hk => trivial)⟩, ⟨by (with_reducible repeat (first | refine blk_drewN ?_ _ | refine blk_drew ?_ | refine blk_alloc ?_ _)); exact BK279.out⟩, ⟨by (with_reducible repeat (first | refine blk_drewN ?_ _ | refine blk_drew ?_ | refine blk_alloc ?_ _)); exact BK295.out⟩, ⟨by repeat (first | (with_reducible first | exact HB.out | apply below_alloc | apply pw_below_drewN | apply below_drew1 | refine below_set ?_ GE279.out | refine below_set ?_ GE295.out) | exact HB.out)⟩⟩
                · replace c49 := Bool.eq_false_iff.mpr c49
                  subst c49
                  have H1 : (laws_FnExactRoomFor.j1 kj15 a1 t286 t289 t296 true a0_0 l0_1 a0_2) = some r := by rw [if_neg (show ¬ (false = true) by decide)] at H; exact H
                  clear H
                  have H := H1
                  clear H1
                  have H' := Aside0.mk H
                  clear H
                  obtain ⟨Ao52, co52, eo52⟩ := Kd.R_slice HO_9.out
                  subst eo52
                  obtain ⟨Ao53, co53, eo53⟩ := Kd.R_slice HO_6.out
                  subst eo53
                  go_wp2_with (first | (go_at_call 32; (with_reducible refine (laws_eqInt64S.calls kj15 _ _ t296 _ _ t286 false _ ?side1 ?side2 ?side3 ?side4 A48.out).mono ?_); (case side1 => repeat (first | exact (Kd.R_reads' HO_9.out).2.2 | (with_reducible refine Kd.C_alloc ?_ _) | (with_reducible refine Kd.C_drewN ?_ _) | (with_reducible refine Kd.C_drew ?_))); (case side2 => exact (Kd.R_reads' HO_9.out).2.1); (case side3 => repeat (first | exact (Kd.R_reads' HO_6.out).2.2 | (with_reducible refine Kd.C_alloc ?_ _) | (with_reducible refine Kd.C_drewN ?_ _) | (with_reducible refine Kd.C_drew ?_))); (case side4 => exact (Kd.R_reads' HO_6.out).2.1); rintro e w' ⟨rfl, ⟨nd, rfl⟩⟩))
                  go_meet
                  case rel => exact ⟨_, (true), (by first | rfl | (simp; done) | (simp [*]; done)), H', ⟨by have := HJ15.out; first | omega | exact Nat.le_refl _⟩, ⟨by (with_reducible repeat (first | apply Kd.R_alloc | apply Kd.R_drewN | apply Kd.R_drew)); exact HO_6.out⟩, ⟨by (with_reducible repeat (first | apply Kd.R_alloc | apply Kd.R_drewN | apply Kd.R_drew)); exact HO_9.out⟩, ⟨by (with_reducible repeat (first | apply Kd.R_alloc | apply Kd.R_drewN | apply Kd.R_drew)); exact Kd.R_mono HO_296001.out (fun _ hk => trivial)⟩, ⟨by (with_reducible repeat (first | refine blk_drewN ?_ _ | refine blk_drew ?_ | refine blk_alloc ?_ _)); exact BK279.out⟩, ⟨by (with_reducible repeat (first | refine blk_drewN ?_ _ | refine blk_drew ?_ | refine blk_alloc ?_ _)); exact BK295.out⟩, ⟨by repeat (first | (with_reducible first | exact HB.out | apply below_alloc | apply pw_below_drewN | apply below_drew1 | refine below_set ?_ GE279.out | refine below_set ?_ GE295.out) | exact HB.out)⟩⟩
            case rest =>
              clear HC41
              try clear c1
              try clear c2
              try clear p2
              try clear c3
              try clear c4
              try clear c5
              try clear c5b0
              try clear c6
              try clear c10
              try clear c11
              try clear c26
              try clear c28
              try clear c30
              try clear c31
              try clear c32
              try clear c33
              try clear c38
              try clear c47
              try clear c47b0
              try clear c49
              try clear p2
              obtain ⟨kq, x65_40, rfl, HA, HJ40, HO_6, HO_9, HO_296001, BK279, BK295, HB⟩ := hcut
              have hl296001_40 := (Kd.R_reads' HO_296001.out).1
              rw [hl296001_40] at HO_296001
              (try simp only [hl296001_40])
              (try simp only [hl296001_40] at BK279)
              (try simp only [hl296001_40] at BK295)
              (try simp only [hl296001_40] at HO_6)
              (try simp only [hl296001_40] at HO_9)
              cases kq with
              | zero => exact absurd HA.out (by simp [laws_FnExactRoomFor.j1])
              | succ kj40 =>
                have H := HA.out
                clear HA
                simp only [laws_FnExactRoomFor.j1] at H
                by_cases c54 : x65_40 = true
                · subst c54
                  have H1 : (some false) = some r := by rw [if_pos rfl] at H; exact H
                  clear H
                  have H := H1
                  clear H1
                  obtain rfl := Option.some.inj H
                  cases ht
                · replace c54 := Bool.eq_false_iff.mpr c54
                  subst c54
                  have H1 : ((laws_markInt64S.f kj40 t296 1).bind fun bt310 => ((laws_heldInt64S.f kj40 bt310.2 1).bind fun t312 => (if t312 < 0 then (some false) else (if t312 = bt310.1 then ((laws_toHalf.f kj40 a0_0 l0_1 a0_2).bind fun bt313 => ((impl_RoomFor.f kj40 bt313.1 bt313.2.1 bt313.2.2 a1).bind fun bt318 => ((laws_eqInt64S.f kj40 bt318.1 t286).bind fun t322 => (if t322 = true then (laws_FnExactRoomFor.j2 kj40 bt310.2 bt310.1 (bt318.2 != t289)) else (laws_FnExactRoomFor.j2 kj40 bt310.2 bt310.1 true))))) else (some false))))) = some r := by rw [if_neg (show ¬ (false = true) by decide)] at H; exact H
                  clear H
                  have H := H1
                  clear H1
                  replace H := Option.bind_eq_some_iff.mp H
                  obtain ⟨⟨t310, t311⟩, A550, H⟩ := H
                  replace H : ((laws_heldInt64S.f kj40 t311 1).bind fun t312 => (if t312 < 0 then (some false) else (if t312 = t310 then ((laws_toHalf.f kj40 a0_0 l0_1 a0_2).bind fun bt313 => ((impl_RoomFor.f kj40 bt313.1 bt313.2.1 bt313.2.2 a1).bind fun bt318 => ((laws_eqInt64S.f kj40 bt318.1 t286).bind fun t322 => (if t322 = true then (laws_FnExactRoomFor.j2 kj40 t311 t310 (bt318.2 != t289)) else (laws_FnExactRoomFor.j2 kj40 t311 t310 true))))) else (some false)))) = some r := H
                  have A55 := Aside0.mk A550
                  clear A550
                  replace H := Option.bind_eq_some_iff.mp H
                  obtain ⟨t312, A560, H⟩ := H
                  replace H : (if t312 < 0 then (some false) else (if t312 = t310 then ((laws_toHalf.f kj40 a0_0 l0_1 a0_2).bind fun bt313 => ((impl_RoomFor.f kj40 bt313.1 bt313.2.1 bt313.2.2 a1).bind fun bt318 => ((laws_eqInt64S.f kj40 bt318.1 t286).bind fun t322 => (if t322 = true then (laws_FnExactRoomFor.j2 kj40 t311 t310 (bt318.2 != t289)) else (laws_FnExactRoomFor.j2 kj40 t311 t310 true))))) else (some false))) = some r := H
                  have A56 := Aside0.mk A560
                  clear A560
                  by_cases c57 : t312 < 0
                  · rw [if_pos c57] at H
                    have c57b0 : decide (t312 < 0) = true := decide_eq_true c57
                    clear c57
                    obtain rfl := Option.some.inj H
                    cases ht
                  · rw [if_neg c57] at H
                    have c57b0 : decide (t312 < 0) = false := decide_eq_false c57
                    clear c57
                    by_cases c58 : t312 = t310
                    · rw [if_pos c58] at H
                      have c58b0 : (t312 == t310) = true := beq_iff_eq.mpr c58
                      have c58b1 : (t312 != t310) = false := bne_eq_false_iff_eq.mpr c58
                      clear c58
                      replace H := Option.bind_eq_some_iff.mp H
                      obtain ⟨⟨t313, t314, t317⟩, A600, H⟩ := H
                      replace H : ((impl_RoomFor.f kj40 t313 t314 t317 a1).bind fun bt318 => ((laws_eqInt64S.f kj40 bt318.1 t286).bind fun t322 => (if t322 = true then (laws_FnExactRoomFor.j2 kj40 t311 t310 (bt318.2 != t289)) else (laws_FnExactRoomFor.j2 kj40 t311 t310 true)))) = some r := H
                      have A60 := Aside0.mk A600
                      clear A600
                      replace H := Option.bind_eq_some_iff.mp H
                      obtain ⟨⟨t318, t321⟩, A610, H⟩ := H
                      replace H : ((laws_eqInt64S.f kj40 t318 t286).bind fun t322 => (if t322 = true then (laws_FnExactRoomFor.j2 kj40 t311 t310 (t321 != t289)) else (laws_FnExactRoomFor.j2 kj40 t311 t310 true))) = some r := H
                      have A61 := Aside0.mk A610
                      clear A610
                      have HC62 := Aside0.mk H
                      clear H
                      obtain ⟨Ao63, co63, eo63⟩ := Kd.R_slice HO_9.out
                      subst eo63
                      go_upto_region 25 with (first | ((with_reducible refine gate_callee (f := 33) rfl ?_); refine goesL_ (some 68) rfl rfl Try.func33 (by kernel_rfl) rfl #[.slice Ao63 t296.length co63, .int .i64 1] rfl (by (try simp only [List.map_toArray, List.map_cons, List.map_nil]); first | done | (go_simp; done) | rfl | (simp only [List.length_drop, List.length_take]; rfl)) ?_; (with_reducible refine (laws_markInt64S.calls kj40 (fun k_ => some k_ = (.slice Ao63 t296.length co63 : Value).ownBlock) (.slice Ao63 t296.length co63) t296 1 t310 t311 w _ ?side1 ?side2 A55.out).mono ?_); (case side1 => repeat (first | (with_reducible first | exact HB.out | apply below_alloc | apply pw_below_drewN | apply below_drew1 | refine below_set ?_ GE279.out | refine below_set ?_ GE295.out) | exact HB.out)); (case side2 => exact Kd.R_tight rfl HO_9.out); rintro e w64 ⟨rfl, hy0, hb, hkp⟩; refine ⟨_, rfl, ?_⟩; have n0_ := Aside0.mk (Kd.R_mono (ok' := fun k_ => some k_ ≠ (.slice Ao63 t296.length co63 : Value).ownBlock) (Kd.R_keptB (HO_6.out) hkp (fun k_ hk_ hs_ => (hk_) hs_)) (fun k_ hk_ => hk_.1)); have n1_ := Aside0.mk (Kd.R_reok rfl hy0 (fun k_ e_ => HO_9.out.1 k_ e_)); have n2_ := Aside0.mk (Kd.R_mono (ok' := fun k_ => True) (Kd.R_keptB ((Kd.R_apart' HO_296001.out (Kd.R_typed HO_9.out) (by decide))) hkp (fun k_ hk_ hs_ => (hk_.2) hs_)) (fun k_ hk_ => trivial)); have n3_ := Aside0.mk (blk_kept (by (with_reducible repeat (first | refine blk_drewN ?_ _ | refine blk_drew ?_ | refine blk_alloc ?_ _)); exact BK279.out) hkp (fun hs_ => (fun e_ => (Kd.R_ne HO_9.out BK279.out (by decide)) e_) hs_)); have n4_ := Aside0.mk (blk_kept (by (with_reducible repeat (first | refine blk_drewN ?_ _ | refine blk_drew ?_ | refine blk_alloc ?_ _)); exact BK295.out) hkp (fun hs_ => (fun e_ => (Kd.R_ne HO_9.out BK295.out (by decide)) e_) hs_)); have n5_ := Aside0.mk (hb); clear HO_6; clear HO_9; clear HO_296001; clear BK279; clear BK295; clear HB; have HO_6 := n0_; have HO_9 := n1_; have HO_296001 := n2_; have BK279 := n3_; have BK295 := n4_; have HB := n5_; clear n0_ n1_ n2_ n3_ n4_ n5_; (try clear hb); (try clear hkp); (try clear hy0)) | ((with_reducible refine gate_callee (f := 34) rfl ?_); refine goesL_ (some 71) rfl rfl Try.func34 (by kernel_rfl) rfl #[.slice Ao63 t311.length co63, .int .i64 1] rfl (by (try simp only [List.map_toArray, List.map_cons, List.map_nil]); first | done | (rw [show t311.length = t296.length from (Kd.R_reads' HO_9.out).1.symm] <;> rfl) | (go_simp; done) | rfl | (simp only [List.length_drop, List.length_take]; rfl)) ?_; (with_reducible refine (laws_heldInt64S.calls kj40 _ _ t311 1 t312 _ ?side1 ?side2 A56.out).mono ?_); (case side1 => repeat (first | exact (Kd.R_reads' HO_9.out).2.2 | (with_reducible refine Kd.C_alloc ?_ _) | (with_reducible refine Kd.C_drewN ?_ _) | (with_reducible refine Kd.C_drew ?_))); (case side2 => rw [show t311.length = t296.length from (Kd.R_reads' HO_9.out).1.symm]; exact (Kd.R_reads' HO_9.out).2.1); rintro e w' ⟨rfl, ⟨nd, rfl⟩⟩; refine ⟨_, rfl, ?_⟩) | ((with_reducible refine Arr.gate_load (t := 54) (p := 2) rfl ?_); (try (refine gate_guard (by rfl) ?_; dsimp only)); refine Arr.loadA ?hg (T := 54) (p := 2) ?ho (g := gb279) (off := 0) ?hx (t := 54) (l := ((.bool a0_0) :: (.slice A0_1 l0_1.length c0_1) :: Arr.arL .i8 a0_2)) (m := ((.bool a0_0) :: (.slice A0_1 l0_1.length c0_1) :: Arr.arL .i8 a0_2)) (fr := (0, 0)) (show w64.heap[gb279]? = some (.cells (⟨(.bool a0_0) :: (.slice A0_1 l0_1.length c0_1) :: Arr.arL .i8 a0_2⟩ : Array Value) 54 (0, 0)) from by (with_reducible repeat (first | refine blk_drewN ?_ _ | refine blk_drew ?_ | refine blk_alloc ?_ _)); exact BK279.out) rfl Try.underlying54 rfl (n := 18) (by kernel_rfl) (by simp [Arr.arL_length]) ?_; (case hg => rfl); (case ho => rfl); (case hx => first | (go_simp; done) | rfl | (go_simp; rfl))) | ((with_reducible refine gate_callee (f := 28) rfl ?_); refine goesL_ (some 79) rfl rfl Try.func28 (by kernel_rfl) rfl #[.agg (⟨(.bool a0_0) :: (.slice A0_1 l0_1.length c0_1) :: Arr.arL .i8 a0_2⟩ : Array Value)] rfl (by (try simp only [List.map_toArray, List.map_cons, List.map_nil]); first | done | (go_simp; done) | rfl | (simp only [List.length_drop, List.length_take]; rfl)) ?_; (with_reducible refine (laws_toHalf.calls kj40 a0_0 _ _ l0_1 a0_2 t313 t314 t317 _ ?side1 ?side2 A60.out).mono ?_); (case side1 => repeat (first | exact (Kd.C_below HR0_1.out (by repeat (first | (with_reducible first | exact HB.out | apply below_alloc | apply pw_below_drewN | apply below_drew1 | refine below_set ?_ GE279.out | refine below_set ?_ GE295.out) | exact HB.out))) | (with_reducible refine Kd.C_alloc ?_ _) | (with_reducible refine Kd.C_drewN ?_ _) | (with_reducible refine Kd.C_drew ?_))); (case side2 => exact HC0_1.out); rintro e w65 ⟨v315, rfl, ho0, hb⟩; refine ⟨_, rfl, ?_⟩; have n0_ := Aside0.mk (Kd.R_below (by (with_reducible repeat (first | apply Kd.R_alloc | apply Kd.R_drewN | apply Kd.R_drew)); exact HO_6.out) hb); have n1_ := Aside0.mk (Kd.R_below (by (with_reducible repeat (first | apply Kd.R_alloc | apply Kd.R_drewN | apply Kd.R_drew)); exact HO_9.out) hb); have n2_ := Aside0.mk (Kd.R_elder' (by (with_reducible repeat (first | apply Kd.R_alloc | apply Kd.R_drewN | apply Kd.R_drew)); exact HO_296001.out) (Kd.R_base ho0) hb); have n3_ := Aside0.mk (Kd.R_lower (Kd.R_new' ho0 (Kd.R_lt (by (with_reducible repeat (first | apply Kd.R_alloc | apply Kd.R_drewN | apply Kd.R_drew)); exact HO_296001.out))) (below_size (by repeat (first | (with_reducible first | exact HB.out | apply below_alloc | apply pw_below_drewN | apply below_drew1 | refine below_set ?_ GE279.out | refine below_set ?_ GE295.out) | exact HB.out)))); have n4_ := Aside0.mk (blk_below (g := gb279) (o := .cells (⟨(.bool a0_0) :: (.slice A0_1 l0_1.length c0_1) :: Arr.arL .i8 a0_2⟩ : Array Value) 54 (0, 0)) (by (with_reducible repeat (first | refine blk_drewN ?_ _ | refine blk_drew ?_ | refine blk_alloc ?_ _)); exact BK279.out) hb); have n5_ := Aside0.mk (blk_below (g := gb295) (o := .cells (⟨(.bool t290) :: (.slice Ao25 t308.length co25) :: Arr.arL .i8 t294⟩ : Array Value) 27 (0, 0)) (by (with_reducible repeat (first | refine blk_drewN ?_ _ | refine blk_drew ?_ | refine blk_alloc ?_ _)); exact BK295.out) hb); have n6_ := Aside0.mk (below_step (by repeat (first | (with_reducible first | exact HB.out | apply below_alloc | apply pw_below_drewN | apply below_drew1 | refine below_set ?_ GE279.out | refine below_set ?_ GE295.out) | exact HB.out)) hb); clear HO_6; clear HO_9; clear HO_296001; clear BK279; clear BK295; clear HB; have HO_6 := n0_; have HO_9 := n1_; have HO_296001 := n2_; have HO316 := n3_; have BK279 := n4_; have BK295 := n5_; have HB := n6_; clear n0_ n1_ n2_ n3_ n4_ n5_ n6_; (try clear hb); (try clear hb2); (try clear hk); (try clear hi); (try clear ho0); obtain ⟨Ao66, co66, eo66⟩ := Kd.R_slice HO316.out; subst eo66) | ((with_reducible refine gate_callee (f := 31) rfl ?_); refine goesL_ (some 81) rfl rfl Try.func31 (by kernel_rfl) rfl #[.agg (⟨(.bool t313) :: (.slice Ao66 t314.length co66) :: Arr.arL .i8 t317⟩ : Array Value), .int .i64 a1] rfl (by (try simp only [List.map_toArray, List.map_cons, List.map_nil]); first | done | (go_simp; done) | rfl | (simp only [List.length_drop, List.length_take]; rfl)) ?_; (with_reducible refine (impl_RoomFor.calls kj40 t313 _ _ t314 t317 a1 t318 t321 _ ?side1 ?side2 A61.out).mono ?_); (case side1 => repeat (first | exact (Kd.R_reads' HO316.out).2.2 | (with_reducible refine Kd.C_alloc ?_ _) | (with_reducible refine Kd.C_drewN ?_ _) | (with_reducible refine Kd.C_drew ?_))); (case side2 => exact (Kd.R_reads' HO316.out).2.1); rintro e w67 ⟨v319, rfl, ho0, hb⟩; refine ⟨_, rfl, ?_⟩; have n0_ := Aside0.mk (Kd.R_elder' (by (with_reducible repeat (first | apply Kd.R_alloc | apply Kd.R_drewN | apply Kd.R_drew)); exact HO_6.out) (Kd.R_base ho0) hb); have n1_ := Aside0.mk (Kd.R_elder' (by (with_reducible repeat (first | apply Kd.R_alloc | apply Kd.R_drewN | apply Kd.R_drew)); exact HO_9.out) (Kd.R_base ho0) hb); have n2_ := Aside0.mk (Kd.R_below (by (with_reducible repeat (first | apply Kd.R_alloc | apply Kd.R_drewN | apply Kd.R_drew)); exact HO_296001.out) hb); have n3_ := Aside0.mk (Kd.R_below (by (with_reducible repeat (first | apply Kd.R_alloc | apply Kd.R_drewN | apply Kd.R_drew)); exact HO316.out) hb); have n4_ := Aside0.mk (Kd.R_lower (Kd.R_new' (Kd.R_new' ho0 (Kd.R_lt (by (with_reducible repeat (first | apply Kd.R_alloc | apply Kd.R_drewN | apply Kd.R_drew)); exact HO_6.out))) (Kd.R_lt (by (with_reducible repeat (first | apply Kd.R_alloc | apply Kd.R_drewN | apply Kd.R_drew)); exact HO_9.out))) (below_size (by repeat (first | (with_reducible first | exact HB.out | apply below_alloc | apply pw_below_drewN | apply below_drew1 | refine below_set ?_ GE279.out | refine below_set ?_ GE295.out) | exact HB.out)))); have n5_ := Aside0.mk (blk_below (g := gb279) (o := .cells (⟨(.bool a0_0) :: (.slice A0_1 l0_1.length c0_1) :: Arr.arL .i8 a0_2⟩ : Array Value) 54 (0, 0)) (by (with_reducible repeat (first | refine blk_drewN ?_ _ | refine blk_drew ?_ | refine blk_alloc ?_ _)); exact BK279.out) hb); have n6_ := Aside0.mk (blk_below (g := gb295) (o := .cells (⟨(.bool t290) :: (.slice Ao25 t308.length co25) :: Arr.arL .i8 t294⟩ : Array Value) 27 (0, 0)) (by (with_reducible repeat (first | refine blk_drewN ?_ _ | refine blk_drew ?_ | refine blk_alloc ?_ _)); exact BK295.out) hb); have n7_ := Aside0.mk (below_step (by repeat (first | (with_reducible first | exact HB.out | apply below_alloc | apply pw_below_drewN | apply below_drew1 | refine below_set ?_ GE279.out | refine below_set ?_ GE295.out) | exact HB.out)) hb); clear HO_6; clear HO_9; clear HO_296001; clear HO316; clear BK279; clear BK295; clear HB; have HO_6 := n0_; have HO_9 := n1_; have HO_296001 := n2_; have HO316 := n3_; have HO320 := n4_; have BK279 := n5_; have BK295 := n6_; have HB := n7_; clear n0_ n1_ n2_ n3_ n4_ n5_ n6_ n7_; (try clear hb); (try clear hb2); (try clear hk); (try clear hi); (try clear ho0)))
                      (try simp only [Act.put, List.setIfInBounds_toArray, List.set_cons_zero, List.set_cons_succ])
                      go_cut [92] (fun v92 wc => ∃ (kq : Nat) (x92_61 : Bool), v92 = .bool x92_61 ∧ Aside0 (laws_FnExactRoomFor.j2 kq t311 t310 x92_61 = some r) ∧ Aside0 (kq ≤ kj40) ∧ Aside0 (Kd.R (Kd.int .i64) 2 wc w.heap.size (fun _ => True) (.slice Ao63 t296.length co63) t311) ∧ Aside0 (Kd.R k71 71 wc w.heap.size (fun _ => True) (.slice Ao25 t308.length co25) t308) ∧ Aside0 (wc.heap[gb279]? = some (.cells (⟨(.bool a0_0) :: ((.slice A0_1 l0_1.length c0_1)) :: Arr.arL .i8 a0_2⟩ : Array Value) 54 (0, 0))) ∧ Aside0 (wc.heap[gb295]? = some (.cells (⟨(.bool t290) :: ((.slice Ao25 t308.length co25)) :: Arr.arL .i8 t294⟩ : Array Value) 27 (0, 0))) ∧ Aside0 (Below w.heap.size w wc))
                      case first =>
                        have H := HC62.out
                        clear HC62
                        replace H := Option.bind_eq_some_iff.mp H
                        obtain ⟨t322, A680, H⟩ := H
                        replace H : (if t322 = true then (laws_FnExactRoomFor.j2 kj40 t311 t310 (t321 != t289)) else (laws_FnExactRoomFor.j2 kj40 t311 t310 true)) = some r := H
                        have A68 := Aside0.mk A680
                        clear A680
                        by_cases c69 : t322 = true
                        · subst c69
                          have H1 : (laws_FnExactRoomFor.j2 kj40 t311 t310 (t321 != t289)) = some r := by rw [if_pos rfl] at H; exact H
                          clear H
                          have H := H1
                          clear H1
                          have H' := Aside0.mk H
                          clear H
                          obtain ⟨Ao70, co70, eo70⟩ := Kd.R_slice HO320.out
                          subst eo70
                          obtain ⟨Ao71, co71, eo71⟩ := Kd.R_slice HO_6.out
                          subst eo71
                          go_wp2_with (first | ((with_reducible refine gate_callee (f := 32) rfl ?_); refine goesL_ (some 86) rfl rfl Try.func32 (by kernel_rfl) rfl #[.slice Ao70 t318.length co70, .slice Ao71 t286.length co71] rfl (by (try simp only [List.map_toArray, List.map_cons, List.map_nil]); first | done | (go_simp; done) | rfl | (simp only [List.length_drop, List.length_take]; rfl)) ?_; (with_reducible refine (laws_eqInt64S.calls kj40 _ _ t318 _ _ t286 true _ ?side1 ?side2 ?side3 ?side4 A68.out).mono ?_); (case side1 => repeat (first | exact (Kd.R_reads' HO320.out).2.2 | (with_reducible refine Kd.C_alloc ?_ _) | (with_reducible refine Kd.C_drewN ?_ _) | (with_reducible refine Kd.C_drew ?_))); (case side2 => exact (Kd.R_reads' HO320.out).2.1); (case side3 => repeat (first | exact (Kd.R_reads' HO_6.out).2.2 | (with_reducible refine Kd.C_alloc ?_ _) | (with_reducible refine Kd.C_drewN ?_ _) | (with_reducible refine Kd.C_drew ?_))); (case side4 => exact (Kd.R_reads' HO_6.out).2.1); rintro e w' ⟨rfl, ⟨nd, rfl⟩⟩; refine ⟨_, rfl, ?_⟩))
                          go_meet
                          case rel => exact ⟨_, ((t321 != t289)), (by first | rfl | (simp; done) | (simp [*]; done)), H', ⟨by have := HJ15.out; have := HJ40.out; first | omega | exact Nat.le_refl _⟩, ⟨by (try simp only [hl296001_40]); (with_reducible repeat (first | apply Kd.R_alloc | apply Kd.R_drewN | apply Kd.R_drew)); exact Kd.R_mono HO_9.out (fun _ hk => trivial)⟩, ⟨by (try simp only [hl296001_40]); (with_reducible repeat (first | apply Kd.R_alloc | apply Kd.R_drewN | apply Kd.R_drew)); exact Kd.R_mono HO_296001.out (fun _ hk => trivial)⟩, ⟨by (try simp only [hl296001_40]); (with_reducible repeat (first | refine blk_drewN ?_ _ | refine blk_drew ?_ | refine blk_alloc ?_ _)); exact BK279.out⟩, ⟨by (try simp only [hl296001_40]); (with_reducible repeat (first | refine blk_drewN ?_ _ | refine blk_drew ?_ | refine blk_alloc ?_ _)); exact BK295.out⟩, ⟨by repeat (first | (with_reducible first | exact HB.out | apply below_alloc | apply pw_below_drewN | apply below_drew1 | refine below_set ?_ GE279.out | refine below_set ?_ GE295.out) | exact HB.out)⟩⟩
                        · replace c69 := Bool.eq_false_iff.mpr c69
                          subst c69
                          have H1 : (laws_FnExactRoomFor.j2 kj40 t311 t310 true) = some r := by rw [if_neg (show ¬ (false = true) by decide)] at H; exact H
                          clear H
                          have H := H1
                          clear H1
                          have H' := Aside0.mk H
                          clear H
                          obtain ⟨Ao72, co72, eo72⟩ := Kd.R_slice HO320.out
                          subst eo72
                          obtain ⟨Ao73, co73, eo73⟩ := Kd.R_slice HO_6.out
                          subst eo73
                          go_wp2_with (first | ((with_reducible refine gate_callee (f := 32) rfl ?_); refine goesL_ (some 86) rfl rfl Try.func32 (by kernel_rfl) rfl #[.slice Ao72 t318.length co72, .slice Ao73 t286.length co73] rfl (by (try simp only [List.map_toArray, List.map_cons, List.map_nil]); first | done | (go_simp; done) | rfl | (simp only [List.length_drop, List.length_take]; rfl)) ?_; (with_reducible refine (laws_eqInt64S.calls kj40 _ _ t318 _ _ t286 false _ ?side1 ?side2 ?side3 ?side4 A68.out).mono ?_); (case side1 => repeat (first | exact (Kd.R_reads' HO320.out).2.2 | (with_reducible refine Kd.C_alloc ?_ _) | (with_reducible refine Kd.C_drewN ?_ _) | (with_reducible refine Kd.C_drew ?_))); (case side2 => exact (Kd.R_reads' HO320.out).2.1); (case side3 => repeat (first | exact (Kd.R_reads' HO_6.out).2.2 | (with_reducible refine Kd.C_alloc ?_ _) | (with_reducible refine Kd.C_drewN ?_ _) | (with_reducible refine Kd.C_drew ?_))); (case side4 => exact (Kd.R_reads' HO_6.out).2.1); rintro e w' ⟨rfl, ⟨nd, rfl⟩⟩; refine ⟨_, rfl, ?_⟩))
                          go_meet
                          case rel => exact ⟨_, (true), (by first | rfl | (simp; done) | (simp [*]; done)), H', ⟨by have := HJ15.out; have := HJ40.out; first | omega | exact Nat.le_refl _⟩, ⟨by (try simp only [hl296001_40]); (with_reducible repeat (first | apply Kd.R_alloc | apply Kd.R_drewN | apply Kd.R_drew)); exact Kd.R_mono HO_9.out (fun _ hk => trivial)⟩, ⟨by (try simp only [hl296001_40]); (with_reducible repeat (first | apply Kd.R_alloc | apply Kd.R_drewN | apply Kd.R_drew)); exact Kd.R_mono HO_296001.out (fun _ hk => trivial)⟩, ⟨by (try simp only [hl296001_40]); (with_reducible repeat (first | refine blk_drewN ?_ _ | refine blk_drew ?_ | refine blk_alloc ?_ _)); exact BK279.out⟩, ⟨by (try simp only [hl296001_40]); (with_reducible repeat (first | refine blk_drewN ?_ _ | refine blk_drew ?_ | refine blk_alloc ?_ _)); exact BK295.out⟩, ⟨by repeat (first | (with_reducible first | exact HB.out | apply below_alloc | apply pw_below_drewN | apply below_drew1 | refine below_set ?_ GE279.out | refine below_set ?_ GE295.out) | exact HB.out)⟩⟩
                      case rest =>
                        clear HC62
                        try clear c1
                        try clear c2
                        try clear p2
                        try clear c3
                        try clear c4
                        try clear c5
                        try clear c5b0
                        try clear c6
                        try clear c10
                        try clear c11
                        try clear c26
                        try clear c28
                        try clear c30
                        try clear c31
                        try clear c32
                        try clear c33
                        try clear c34
                        try clear c38
                        try clear c47
                        try clear c47b0
                        try clear c49
                        try clear c54
                        try clear c57
                        try clear c57b0
                        try clear c58
                        try clear c58b0
                        try clear c58b1
                        try clear c69
                        try clear p2
                        obtain ⟨kq, x92_61, rfl, HA, HJ61, HO_9, HO_296001, BK279, BK295, HB⟩ := hcut
                        have hl9_61 := (Kd.R_reads' HO_9.out).1
                        rw [hl9_61] at HO_9
                        (try simp only [hl9_61])
                        (try simp only [hl9_61] at BK279)
                        (try simp only [hl9_61] at BK295)
                        (try simp only [hl9_61] at HO_296001)
                        cases kq with
                        | zero => exact absurd HA.out (by simp [laws_FnExactRoomFor.j2])
                        | succ kj61 =>
                          have H := HA.out
                          clear HA
                          simp only [laws_FnExactRoomFor.j2] at H
                          by_cases c74 : x92_61 = true
                          · subst c74
                            have H1 : (some false) = some r := by rw [if_pos rfl] at H; exact H
                            clear H
                            have H := H1
                            clear H1
                            obtain rfl := Option.some.inj H
                            cases ht
                          · replace c74 := Bool.eq_false_iff.mpr c74
                            subst c74
                            have H1 : ((laws_heldInt64S.f kj61 t311 1).bind fun t323 => (if t323 < 0 then (some false) else (if t323 = t310 then (some true) else (some false)))) = some r := by rw [if_neg (show ¬ (false = true) by decide)] at H; exact H
                            clear H
                            have H := H1
                            clear H1
                            replace H := Option.bind_eq_some_iff.mp H
                            obtain ⟨t323, A750, H⟩ := H
                            replace H : (if t323 < 0 then (some false) else (if t323 = t310 then (some true) else (some false))) = some r := H
                            have A75 := Aside0.mk A750
                            clear A750
                            by_cases c76 : t323 < 0
                            · rw [if_pos c76] at H
                              have c76b0 : decide (t323 < 0) = true := decide_eq_true c76
                              clear c76
                              obtain rfl := Option.some.inj H
                              cases ht
                            · rw [if_neg c76] at H
                              have c76b0 : decide (t323 < 0) = false := decide_eq_false c76
                              clear c76
                              by_cases c77 : t323 = t310
                              · rw [if_pos c77] at H
                                have c77b0 : (t323 == t310) = true := beq_iff_eq.mpr c77
                                have c77b1 : (t323 != t310) = false := bne_eq_false_iff_eq.mpr c77
                                clear c77
                                obtain rfl := Option.some.inj H
                                go_wp2_with (first | ((with_reducible refine gate_callee (f := 34) rfl ?_); refine goesL_ (some 95) rfl rfl Try.func34 (by kernel_rfl) rfl #[.slice Ao63 t311.length co63, .int .i64 1] rfl (by (try simp only [List.map_toArray, List.map_cons, List.map_nil]); first | done | (go_simp; done) | rfl | (simp only [List.length_drop, List.length_take]; rfl)) ?_; (with_reducible refine (laws_heldInt64S.calls kj61 _ _ t311 1 t323 _ ?side1 ?side2 A75.out).mono ?_); (case side1 => repeat (first | exact (Kd.R_reads' HO_9.out).2.2 | (with_reducible refine Kd.C_alloc ?_ _) | (with_reducible refine Kd.C_drewN ?_ _) | (with_reducible refine Kd.C_drew ?_))); (case side2 => exact (Kd.R_reads' HO_9.out).2.1); rintro e w' ⟨rfl, ⟨nd, rfl⟩⟩; refine ⟨_, rfl, ?_⟩))
                                go_ret
                                exact ⟨by first | rfl | (simp [errW_none, errW_some] <;> rfl) | (simp [*, errW_none, errW_some] <;> rfl), by repeat (first | (with_reducible first | exact HB.out | apply below_alloc | apply pw_below_drewN | apply below_drew1 | refine below_set ?_ GE279.out | refine below_set ?_ GE295.out) | exact HB.out)⟩
                              · rw [if_neg c77] at H
                                have c77b0 : (t323 == t310) = false := beq_eq_false_iff_ne.mpr c77
                                have c77b1 : (t323 != t310) = true := bne_iff_ne.mpr c77
                                obtain rfl := Option.some.inj H
                                cases ht
                    · rw [if_neg c58] at H
                      have c58b0 : (t312 == t310) = false := beq_eq_false_iff_ne.mpr c58
                      have c58b1 : (t312 != t310) = true := bne_iff_ne.mpr c58
                      obtain rfl := Option.some.inj H
                      cases ht
          · replace c38 := Bool.eq_false_iff.mpr c38
            subst c38
            have H1 : (some false) = some r := by rw [if_neg (show ¬ (false = true) by decide)] at H; exact H
            clear H
            have H := H1
            clear H1
            obtain rfl := Option.some.inj H
            cases ht

end Go.Proofs.Ytcblnnfodpglaaa.MRoomFor
