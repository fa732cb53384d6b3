-- by a program of this session, for this claim
import Derived.Test.YtfjmljgbdejghaaDoorMReadHalfx0
import Derived.Test.YtfjmljgbdejghaaDoorMReadHalfx1
import Derived.Test.YtfjmljgbdejghaaDoorMReadHalfx4
namespace Go.Proofs.YtfjmljgbdejghaaDoor.MReadHalf
open Go.RowKit Go.Proofs.YtfjmljgbdejghaaDoorW.PrintWords Go.Proofs.YtfjmljgbdejghaaDoorW.PrintLast Go.Proofs.YtfjmljgbdejghaaDoorW.PrintMore
attribute [local go_sem] max2_int min2_int max_two min_two max_three min_three max_four min_four   -- for this text's walks alone
set_option linter.unusedVariables false
set_option linter.unusedSimpArgs false

/-! ### spec_l01ReadHalf: function 76 -/
mutual
def spec_l01ReadHalf.j0 : Nat → List ByteArray → Bool → Option (Bool × (List (S62)) × Vector Int 16 × Bool)
  | 0, _, _ => none
  | k + 1, x4, x34 => if x34 = true then (some (false, ([] : List (S62)), (Vector.replicate 16 0 : Vector Int 16), false)) else (if 0 < (x4.length : Int) then (spec_l01ReadHalf.l0 k x4 0 ((rdOf ByteArray.empty x4 0).toList == ([115, 116, 111, 99, 107] : List UInt8)) (Vector.replicate 16 0 : Vector Int 16)) else (none))
def spec_l01ReadHalf.l0 : Nat → List ByteArray → Int → Bool → Vector Int 16 → Option (Bool × (List (S62)) × Vector Int 16 × Bool)
  | 0, _, _, _, _ => none
  | k + 1, x4, x6, x155000, x155002 => if x6 < 16 then (if 1 < (x4.length : Int) then (if 0 ≤ x6 then (if x6 < ((rdOf ByteArray.empty x4 1).size : Int) then (if (bt (rdOf ByteArray.empty x4 1) x6) < 97 then (some (x155000, ([] : List (S62)), x155002, false)) else (if (bt (rdOf ByteArray.empty x4 1) x6) > 103 then (some (x155000, ([] : List (S62)), x155002, false)) else (spec_l01ReadHalf.l0 k x4 (wrap64 (x6 + 1)) x155000 (Arr.vst x155002 x6 (IntKind.i8.wrap ((IntKind.i8.wrap (bt (rdOf ByteArray.empty x4 1) x6)) - 100)))))) else (none)) else (none)) else (none)) else (spec_l01ReadHalf.l1 k x4 2 x155000 ([] : List (S62)) x155002)
def spec_l01ReadHalf.l1 : Nat → List ByteArray → Int → Bool → List (S62) → Vector Int 16 → Option (Bool × (List (S62)) × Vector Int 16 × Bool)
  | 0, _, _, _, _, _ => none
  | k + 1, x4, x8, x155000, x155001, x155002 => if x8 < (x4.length : Int) then (if 0 ≤ x8 then ((spec_l01ReadNotch.f k (rdOf ByteArray.empty x4 x8)).bind fun bt158 => (if bt158.2.2 = true then (if x155001.length < 35184372088832 then (spec_l01ReadHalf.l1 k x4 (wrap64 (x8 + 1)) x155000 (x155001 ++ [(⟨bt158.1, bt158.2.1⟩ : S62)]) x155002) else (none)) else (some (x155000, x155001, x155002, false)))) else (none)) else ((spec_l01Ok.f k x155000 x155001 x155002).bind fun t165 => (some (x155000, x155001, x155002, t165)))
end
def spec_l01ReadHalf.f (k : Nat) (a0 : ByteArray) : Option (Bool × (List (S62)) × Vector Int 16 × Bool) := (spec_l01Split.f k a0 32).bind fun t146 => (if (t146.length : Int) < 2 then (spec_l01ReadHalf.j0 k t146 true) else (if 0 < (t146.length : Int) then (if (rdOf ByteArray.empty t146 0).toList = ([115, 116, 111, 99, 107] : List UInt8) then (if 1 < (t146.length : Int) then (spec_l01ReadHalf.j0 k t146 (((rdOf ByteArray.empty t146 1).size : Int) != 16)) else (none)) else (if (rdOf ByteArray.empty t146 0).toList = ([102, 111, 105, 108] : List UInt8) then (if 1 < (t146.length : Int) then (spec_l01ReadHalf.j0 k t146 (((rdOf ByteArray.empty t146 1).size : Int) != 16)) else (none)) else (spec_l01ReadHalf.j0 k t146 true))) else (none)))
theorem spec_l01ReadHalf.mono_l : ∀ k, (∀ y0 y1, LeO (spec_l01ReadHalf.j0 k y0 y1) (spec_l01ReadHalf.j0 (k + 1) y0 y1)) ∧ (∀ y0 y1 y2 y3, LeO (spec_l01ReadHalf.l0 k y0 y1 y2 y3) (spec_l01ReadHalf.l0 (k + 1) y0 y1 y2 y3)) ∧ (∀ y0 y1 y2 y3 y4, LeO (spec_l01ReadHalf.l1 k y0 y1 y2 y3 y4) (spec_l01ReadHalf.l1 (k + 1) y0 y1 y2 y3 y4))
  | 0 => ⟨fun _ _ r h => by simp [spec_l01ReadHalf.j0] at h, fun _ _ _ _ r h => by simp [spec_l01ReadHalf.l0] at h, fun _ _ _ _ _ r h => by simp [spec_l01ReadHalf.l1] at h⟩
  | k + 1 => by
    obtain ⟨ih0, ih1, ih2⟩ := spec_l01ReadHalf.mono_l k
    refine ⟨?_, ?_, ?_⟩
    · intro y0 y1
      unfold spec_l01ReadHalf.j0
      repeat' first
      | (with_reducible exact ih0 _ _)
      | (with_reducible exact ih1 _ _ _ _)
      | (with_reducible exact ih2 _ _ _ _ _)
      | (with_reducible exact spec_l01Ok.mono _ _ _ _)
      | (with_reducible exact spec_l01ReadNotch.mono _ _)
      | (with_reducible exact spec_l01Split.mono _ _ _)
      | (with_reducible exact LeO.refl _)
      | (with_reducible exact LeO.none _)
      | (with_reducible refine LeO.ite ?_ ?_)
      | (with_reducible refine LeO.bind ?_ (fun _ => ?_))
      | exact ih0 _ _
      | exact ih1 _ _ _ _
      | exact ih2 _ _ _ _ _
      | exact spec_l01Ok.mono _ _ _ _
      | exact spec_l01ReadNotch.mono _ _
      | exact spec_l01Split.mono _ _ _
      | exact LeO.none _
      | refine LeO.ite ?_ ?_
      | refine LeO.bind ?_ (fun _ => ?_)
    · intro y0 y1 y2 y3
      unfold spec_l01ReadHalf.l0
      repeat' first
      | (with_reducible exact ih0 _ _)
      | (with_reducible exact ih1 _ _ _ _)
      | (with_reducible exact ih2 _ _ _ _ _)
      | (with_reducible exact spec_l01Ok.mono _ _ _ _)
      | (with_reducible exact spec_l01ReadNotch.mono _ _)
      | (with_reducible exact spec_l01Split.mono _ _ _)
      | (with_reducible exact LeO.refl _)
      | (with_reducible exact LeO.none _)
      | (with_reducible refine LeO.ite ?_ ?_)
      | (with_reducible refine LeO.bind ?_ (fun _ => ?_))
      | exact ih0 _ _
      | exact ih1 _ _ _ _
      | exact ih2 _ _ _ _ _
      | exact spec_l01Ok.mono _ _ _ _
      | exact spec_l01ReadNotch.mono _ _
      | exact spec_l01Split.mono _ _ _
      | exact LeO.none _
      | refine LeO.ite ?_ ?_
      | refine LeO.bind ?_ (fun _ => ?_)
    · intro y0 y1 y2 y3 y4
      unfold spec_l01ReadHalf.l1
      repeat' first
      | (with_reducible exact ih0 _ _)
      | (with_reducible exact ih1 _ _ _ _)
      | (with_reducible exact ih2 _ _ _ _ _)
      | (with_reducible exact spec_l01Ok.mono _ _ _ _)
      | (with_reducible exact spec_l01ReadNotch.mono _ _)
      | (with_reducible exact spec_l01Split.mono _ _ _)
      | (with_reducible exact LeO.refl _)
      | (with_reducible exact LeO.none _)
      | (with_reducible refine LeO.ite ?_ ?_)
      | (with_reducible refine LeO.bind ?_ (fun _ => ?_))
      | exact ih0 _ _
      | exact ih1 _ _ _ _
      | exact ih2 _ _ _ _ _
      | exact spec_l01Ok.mono _ _ _ _
      | exact spec_l01ReadNotch.mono _ _
      | exact spec_l01Split.mono _ _ _
      | exact LeO.none _
      | refine LeO.ite ?_ ?_
      | refine LeO.bind ?_ (fun _ => ?_)
theorem spec_l01ReadHalf.mono : ∀ a0 k, LeO (spec_l01ReadHalf.f k a0) (spec_l01ReadHalf.f (k + 1) a0) := by
  intro a0 k
  obtain ⟨ih0, ih1, ih2⟩ := spec_l01ReadHalf.mono_l k
  unfold spec_l01ReadHalf.f
  repeat' first
      | (with_reducible exact ih0 _ _)
      | (with_reducible exact ih1 _ _ _ _)
      | (with_reducible exact ih2 _ _ _ _ _)
      | (with_reducible exact spec_l01Ok.mono _ _ _ _)
      | (with_reducible exact spec_l01ReadNotch.mono _ _)
      | (with_reducible exact spec_l01Split.mono _ _ _)
      | (with_reducible exact LeO.refl _)
      | (with_reducible exact LeO.none _)
      | (with_reducible refine LeO.ite ?_ ?_)
      | (with_reducible refine LeO.bind ?_ (fun _ => ?_))
      | exact ih0 _ _
      | exact ih1 _ _ _ _
      | exact ih2 _ _ _ _ _
      | exact spec_l01Ok.mono _ _ _ _
      | exact spec_l01ReadNotch.mono _ _
      | exact spec_l01Split.mono _ _ _
      | exact LeO.none _
      | refine LeO.ite ?_ ?_
      | refine LeO.bind ?_ (fun _ => ?_)
set_option maxHeartbeats 8000000 in
set_option maxRecDepth 100000 in
theorem spec_l01ReadHalf.calls (k : Nat) (a0 : ByteArray) (r1 : Bool) (r2 : List (S62)) (r3 : Vector Int 16) (r4 : Bool) (w : World) (h : spec_l01ReadHalf.f k a0 = some (r1, r2, r3, r4)) :
    Calls Tryd.prog 76 #[.string a0] w fun e w' => ∃ v1_ : Value, e = .returned (.tuple #[.agg (⟨(.bool r1) :: (v1_) :: Arr.arL .i8 r3⟩ : Array Value), .bool r4]) ∧ Kd.R k62 62 w' w.heap.size (fun _ => True) v1_ r2 ∧ Below w.heap.size w w' := by
  have hu45 := Tryd.underlying45
  have hu62 := Tryd.underlying62
  have HB := Aside0.mk (Below.refl w.heap.size w)
  have H : ((spec_l01Split.f k a0 32).bind fun t146 => (if (t146.length : Int) < 2 then (spec_l01ReadHalf.j0 k t146 true) else (if 0 < (t146.length : Int) then (if (rdOf ByteArray.empty t146 0).toList = ([115, 116, 111, 99, 107] : List UInt8) then (if 1 < (t146.length : Int) then (spec_l01ReadHalf.j0 k t146 (((rdOf ByteArray.empty t146 1).size : Int) != 16)) else (none)) else (if (rdOf ByteArray.empty t146 0).toList = ([102, 111, 105, 108] : List UInt8) then (if 1 < (t146.length : Int) then (spec_l01ReadHalf.j0 k t146 (((rdOf ByteArray.empty t146 1).size : Int) != 16)) else (none)) else (spec_l01ReadHalf.j0 k t146 true))) else (none)))) = some (r1, r2, r3, r4) := h
  clear h
  replace H := Option.bind_eq_some_iff.mp H
  obtain ⟨t146, A20, H⟩ := H
  replace H : (if (t146.length : Int) < 2 then (spec_l01ReadHalf.j0 k t146 true) else (if 0 < (t146.length : Int) then (if (rdOf ByteArray.empty t146 0).toList = ([115, 116, 111, 99, 107] : List UInt8) then (if 1 < (t146.length : Int) then (spec_l01ReadHalf.j0 k t146 (((rdOf ByteArray.empty t146 1).size : Int) != 16)) else (none)) else (if (rdOf ByteArray.empty t146 0).toList = ([102, 111, 105, 108] : List UInt8) then (if 1 < (t146.length : Int) then (spec_l01ReadHalf.j0 k t146 (((rdOf ByteArray.empty t146 1).size : Int) != 16)) else (none)) else (spec_l01ReadHalf.j0 k t146 true))) else (none))) = some (r1, r2, r3, r4) := H
  have A2 := Aside0.mk A20
  clear A20
  have HC3 := Aside0.mk H
  clear H
  go_enter Tryd.func76, Tryd.ntmps76
  go_upto_region 2 with (first | ((with_reducible refine gate_dst (N := 2) rfl ?_); (try (refine gate_guard (by rfl) ?_; dsimp only)); refine box_event ?hg (N := 2) ?hd (cs := (⟨(.bool false) :: (.slice none 0 0) :: Arr.arL .i8 (Vector.replicate 16 0 : Vector Int 16)⟩ : Array Value)) (t := 45) ?hr ?_; (case hd => rfl); (case hg => rfl); (case hr => first | (go_simp; done) | (go_simp; rfl)); intro gb145 hg w4 hbox hb; have n0_ := Aside0.mk (below_step (by repeat (first | (with_reducible first | exact HB.out | apply below_alloc | apply pw_below_drewN | apply below_drew1) | exact HB.out)) hb); have n1_ := Aside0.mk (hbox); have n2_ := Aside0.mk ((by rw [hg]; exact (below_size (by repeat (first | (with_reducible first | exact HB.out | apply below_alloc | apply pw_below_drewN | apply below_drew1) | exact HB.out))) : w.heap.size ≤ gb145)); have n3_ := Aside0.mk ((by rw [hg]; exact (below_size (by repeat (first | (with_reducible first | exact HB.out | apply below_alloc | apply pw_below_drewN | apply below_drew1) | exact HB.out))) : w.heap.size ≤ gb145)); clear HB; have HB := n0_; have BK145 := n1_; have GW145 := n2_; have GE145 := n3_; clear n0_ n1_ n2_ n3_; clear hb hbox hg) | ((with_reducible refine gate_callee (f := 63) rfl ?_); refine goesL_ (some 12) rfl rfl Tryd.func63 (by kernel_rfl) rfl #[.string a0, .int .u8 32] rfl (by (try simp only [List.map_toArray, List.map_cons, List.map_nil]); first | done | (go_simp; done) | rfl | (simp only [List.length_drop, List.length_take]; rfl)) ?_; (with_reducible refine (spec_l01Split.calls k a0 32 t146 _ A2.out).mono ?_); rintro e w5 ⟨v147, rfl, ho0, hb⟩; refine ⟨_, rfl, ?_⟩; have n0_ := Aside0.mk (Kd.R_lower ho0 (below_size (by repeat (first | (with_reducible first | exact HB.out | apply below_alloc | apply pw_below_drewN | apply below_drew1 | refine below_set ?_ GE145.out) | exact HB.out)))); have n1_ := Aside0.mk (blk_below (g := gb145) (o := .cells (⟨(.bool false) :: (.slice none 0 0) :: Arr.arL .i8 (Vector.replicate 16 0 : Vector Int 16)⟩ : Array Value) 45 (0, 0)) (by (with_reducible repeat (first | refine blk_drewN ?_ _ | refine blk_drew ?_ | refine blk_alloc ?_ _)); exact BK145.out) hb); have n2_ := Aside0.mk (below_step (by repeat (first | (with_reducible first | exact HB.out | apply below_alloc | apply pw_below_drewN | apply below_drew1 | refine below_set ?_ GE145.out) | exact HB.out)) hb); clear BK145; clear HB; have HO148 := n0_; have BK145 := n1_; have HB := n2_; clear n0_ n1_ n2_; (try clear hb); (try clear hb2); (try clear hk); (try clear hi); (try clear ho0)))
  (try simp only [Act.put, List.setIfInBounds_toArray, List.set_cons_zero, List.set_cons_succ])
  go_cut [34] (fun v34 wc => ∃ (kq : Nat) (x34_2 : Bool), v34 = .bool x34_2 ∧ Aside0 (spec_l01ReadHalf.j0 kq t146 x34_2 = some (r1, r2, r3, r4)) ∧ Aside0 (kq ≤ k) ∧ Aside0 (Kd.R Kd.string 9 wc w.heap.size (fun _ => True) v147 t146) ∧ Aside0 (wc.heap[gb145]? = some (.cells (⟨(.bool false) :: ((.slice none 0 0)) :: Arr.arL .i8 (Vector.replicate 16 0 : Vector Int 16)⟩ : Array Value) 45 (0, 0))) ∧ Aside0 (Below w.heap.size w wc))
  case first =>
    have H := HC3.out
    clear HC3
    by_cases c6 : (t146.length : Int) < 2
    · rw [if_pos c6] at H
      have c6b0 : decide ((t146.length : Int) < 2) = true := decide_eq_true c6
      have c6b1 : decide (t146.length < 2) = true := decide_eq_true (by omega)
      clear c6
      (first | rw [c6b0] | (simp only [i64_w, i32_w]; rw [c6b0]) | skip)
      have H' := Aside0.mk H
      clear H
      obtain ⟨Ao7, co7, eo7⟩ := Kd.R_slice HO148.out
      subst eo7
      go_wp2
      go_meet
      case rel => exact ⟨_, (true), (by first | rfl | (simp; done) | (simp [*]; done)), H', ⟨by first | omega | exact Nat.le_refl _⟩, ⟨by (with_reducible repeat (first | apply Kd.R_alloc | apply Kd.R_drewN | apply Kd.R_drew)); exact HO148.out⟩, ⟨by (with_reducible repeat (first | refine blk_drewN ?_ _ | refine blk_drew ?_ | refine blk_alloc ?_ _)); exact BK145.out⟩, ⟨by repeat (first | (with_reducible first | exact HB.out | apply below_alloc | apply pw_below_drewN | apply below_drew1 | refine below_set ?_ GE145.out) | exact HB.out)⟩⟩
    · rw [if_neg c6] at H
      have c6b0 : decide ((t146.length : Int) < 2) = false := decide_eq_false c6
      have c6b1 : decide (t146.length < 2) = false := decide_eq_false (by omega)
      clear c6
      (first | rw [c6b0] | (simp only [i64_w, i32_w]; rw [c6b0]) | skip)
      by_cases c8 : 0 < (t146.length : Int)
      · rw [if_pos c8] at H
        have c8b0 : decide (0 < (t146.length : Int)) = true := decide_eq_true c8
        have c8b1 : decide (0 < t146.length) = true := decide_eq_true (by omega)
        clear c8
        by_cases c9 : (rdOf ByteArray.empty t146 0).toList = ([115, 116, 111, 99, 107] : List UInt8)
        · rw [if_pos c9] at H
          have c9b0 : ((rdOf ByteArray.empty t146 0).toList == ([115, 116, 111, 99, 107] : List UInt8)) = true := beq_iff_eq.mpr c9
          have c9b1 : ((rdOf ByteArray.empty t146 0).toList != ([115, 116, 111, 99, 107] : List UInt8)) = false := bne_eq_false_iff_eq.mpr c9
          clear c9
          by_cases c10 : 1 < (t146.length : Int)
          · rw [if_pos c10] at H
            have c10b0 : decide (1 < (t146.length : Int)) = true := decide_eq_true c10
            have c10b1 : decide (1 < t146.length) = true := decide_eq_true (by omega)
            clear c10
            have H' := Aside0.mk H
            clear H
            obtain ⟨Ao11, co11, eo11⟩ := Kd.R_slice HO148.out
            subst eo11
            have p149 : 0 ≤ (0 : Int) := (by omega)
            have q149 : 0 < (t146.length : Int) := of_decide_eq_true (by first | (with_reducible assumption) | assumption)
            obtain ⟨ad149, e149, hx149_0⟩ := Kd.at_string (Kd.R_reads' HO148.out).2.2 0 p149 q149
            cases e149
            have qi149 : (0 < t146.length) = True := eq_true (by omega)
            (try rw [show ((0 : Int)).toNat = 0 from rfl] at hx149_0)
            (try rw [Addr.add_zero'] at hx149_0)
            replace p149 := eq_true p149
            replace q149 := eq_true q149
            have p150 : 0 ≤ (1 : Int) := (by omega)
            have q150 : 1 < (t146.length : Int) := of_decide_eq_true (by first | (with_reducible assumption) | assumption)
            obtain ⟨ad150, e150, hx150_0⟩ := Kd.at_string (Kd.R_reads' HO148.out).2.2 1 p150 q150
            obtain rfl : ad149 = ad150 := (by injection e150)
            (try simp only [show (1 : Int).toNat = 1 from rfl, Nat.reduceMul, Nat.reduceEqDiff, Go.Addr.add, ↓reduceIte] at hx150_0)
            have qi150 : (1 < t146.length) = True := eq_true (by omega)
            (try rw [show ((1 : Int)).toNat = 1 from rfl] at hx150_0)
            replace p150 := eq_true p150
            replace q150 := eq_true q150
            go_wp2
            go_meet
            case rel => exact ⟨_, ((((rdOf ByteArray.empty t146 1).size : Int) != 16)), (by first | rfl | (simp; done) | (simp [*]; done)), H', ⟨by first | omega | exact Nat.le_refl _⟩, ⟨by (with_reducible repeat (first | apply Kd.R_alloc | apply Kd.R_drewN | apply Kd.R_drew)); exact HO148.out⟩, ⟨by (with_reducible repeat (first | refine blk_drewN ?_ _ | refine blk_drew ?_ | refine blk_alloc ?_ _)); exact BK145.out⟩, ⟨by repeat (first | (with_reducible first | exact HB.out | apply below_alloc | apply pw_below_drewN | apply below_drew1 | refine below_set ?_ GE145.out) | exact HB.out)⟩⟩
          · rw [if_neg c10] at H
            exact absurd H (by simp)
        · rw [if_neg c9] at H
          have c9b0 : ((rdOf ByteArray.empty t146 0).toList == ([115, 116, 111, 99, 107] : List UInt8)) = false := beq_eq_false_iff_ne.mpr c9
          have c9b1 : ((rdOf ByteArray.empty t146 0).toList != ([115, 116, 111, 99, 107] : List UInt8)) = true := bne_iff_ne.mpr c9
          by_cases c12 : (rdOf ByteArray.empty t146 0).toList = ([102, 111, 105, 108] : List UInt8)
          · rw [if_pos c12] at H
            have c12b0 : ((rdOf ByteArray.empty t146 0).toList == ([102, 111, 105, 108] : List UInt8)) = true := beq_iff_eq.mpr c12
            have c12b1 : ((rdOf ByteArray.empty t146 0).toList != ([102, 111, 105, 108] : List UInt8)) = false := bne_eq_false_iff_eq.mpr c12
            clear c12
            by_cases c13 : 1 < (t146.length : Int)
            · rw [if_pos c13] at H
              have c13b0 : decide (1 < (t146.length : Int)) = true := decide_eq_true c13
              have c13b1 : decide (1 < t146.length) = true := decide_eq_true (by omega)
              clear c13
              have H' := Aside0.mk H
              clear H
              obtain ⟨Ao14, co14, eo14⟩ := Kd.R_slice HO148.out
              subst eo14
              have p149 : 0 ≤ (0 : Int) := (by omega)
              have q149 : 0 < (t146.length : Int) := of_decide_eq_true (by first | (with_reducible assumption) | assumption)
              obtain ⟨ad149, e149, hx149_0⟩ := Kd.at_string (Kd.R_reads' HO148.out).2.2 0 p149 q149
              cases e149
              have qi149 : (0 < t146.length) = True := eq_true (by omega)
              (try rw [show ((0 : Int)).toNat = 0 from rfl] at hx149_0)
              (try rw [Addr.add_zero'] at hx149_0)
              replace p149 := eq_true p149
              replace q149 := eq_true q149
              have p151 : 0 ≤ (0 : Int) := (by omega)
              have q151 : 0 < (t146.length : Int) := of_decide_eq_true (by first | (with_reducible assumption) | assumption)
              obtain ⟨ad151, e151, hx151_0⟩ := Kd.at_string (Kd.R_reads' HO148.out).2.2 0 p151 q151
              obtain rfl : ad149 = ad151 := (by injection e151)
              have qi151 : (0 < t146.length) = True := eq_true (by omega)
              (try rw [show ((0 : Int)).toNat = 0 from rfl] at hx151_0)
              (try rw [Addr.add_zero'] at hx151_0)
              replace p151 := eq_true p151
              replace q151 := eq_true q151
              have p152 : 0 ≤ (1 : Int) := (by omega)
              have q152 : 1 < (t146.length : Int) := of_decide_eq_true (by first | (with_reducible assumption) | assumption)
              obtain ⟨ad152, e152, hx152_0⟩ := Kd.at_string (Kd.R_reads' HO148.out).2.2 1 p152 q152
              obtain rfl : ad149 = ad152 := (by injection e152)
              (try simp only [show (1 : Int).toNat = 1 from rfl, Nat.reduceMul, Nat.reduceEqDiff, Go.Addr.add, ↓reduceIte] at hx152_0)
              have qi152 : (1 < t146.length) = True := eq_true (by omega)
              (try rw [show ((1 : Int)).toNat = 1 from rfl] at hx152_0)
              replace p152 := eq_true p152
              replace q152 := eq_true q152
              go_wp2
              go_meet
              case rel => exact ⟨_, ((((rdOf ByteArray.empty t146 1).size : Int) != 16)), (by first | rfl | (simp; done) | (simp [*]; done)), H', ⟨by first | omega | exact Nat.le_refl _⟩, ⟨by (with_reducible repeat (first | apply Kd.R_alloc | apply Kd.R_drewN | apply Kd.R_drew)); exact HO148.out⟩, ⟨by (with_reducible repeat (first | refine blk_drewN ?_ _ | refine blk_drew ?_ | refine blk_alloc ?_ _)); exact BK145.out⟩, ⟨by repeat (first | (with_reducible first | exact HB.out | apply below_alloc | apply pw_below_drewN | apply below_drew1 | refine below_set ?_ GE145.out) | exact HB.out)⟩⟩
            · rw [if_neg c13] at H
              exact absurd H (by simp)
          · rw [if_neg c12] at H
            have c12b0 : ((rdOf ByteArray.empty t146 0).toList == ([102, 111, 105, 108] : List UInt8)) = false := beq_eq_false_iff_ne.mpr c12
            have c12b1 : ((rdOf ByteArray.empty t146 0).toList != ([102, 111, 105, 108] : List UInt8)) = true := bne_iff_ne.mpr c12
            have H' := Aside0.mk H
            clear H
            obtain ⟨Ao15, co15, eo15⟩ := Kd.R_slice HO148.out
            subst eo15
            have p149 : 0 ≤ (0 : Int) := (by omega)
            have q149 : 0 < (t146.length : Int) := of_decide_eq_true (by first | (with_reducible assumption) | assumption)
            obtain ⟨ad149, e149, hx149_0⟩ := Kd.at_string (Kd.R_reads' HO148.out).2.2 0 p149 q149
            cases e149
            have qi149 : (0 < t146.length) = True := eq_true (by omega)
            (try rw [show ((0 : Int)).toNat = 0 from rfl] at hx149_0)
            (try rw [Addr.add_zero'] at hx149_0)
            replace p149 := eq_true p149
            replace q149 := eq_true q149
            have p151 : 0 ≤ (0 : Int) := (by omega)
            have q151 : 0 < (t146.length : Int) := of_decide_eq_true (by first | (with_reducible assumption) | assumption)
            obtain ⟨ad151, e151, hx151_0⟩ := Kd.at_string (Kd.R_reads' HO148.out).2.2 0 p151 q151
            obtain rfl : ad149 = ad151 := (by injection e151)
            have qi151 : (0 < t146.length) = True := eq_true (by omega)
            (try rw [show ((0 : Int)).toNat = 0 from rfl] at hx151_0)
            (try rw [Addr.add_zero'] at hx151_0)
            replace p151 := eq_true p151
            replace q151 := eq_true q151
            go_wp2
            go_meet
            case rel => exact ⟨_, (true), (by first | rfl | (simp; done) | (simp [*]; done)), H', ⟨by first | omega | exact Nat.le_refl _⟩, ⟨by (with_reducible repeat (first | apply Kd.R_alloc | apply Kd.R_drewN | apply Kd.R_drew)); exact HO148.out⟩, ⟨by (with_reducible repeat (first | refine blk_drewN ?_ _ | refine blk_drew ?_ | refine blk_alloc ?_ _)); exact BK145.out⟩, ⟨by repeat (first | (with_reducible first | exact HB.out | apply below_alloc | apply pw_below_drewN | apply below_drew1 | refine below_set ?_ GE145.out) | exact HB.out)⟩⟩
      · rw [if_neg c8] at H
        exact absurd H (by simp)
  case rest =>
    clear HC3
    try clear c1
    try clear p1
    try clear q1
    try clear hx1
    try clear qi1
    try clear p2
    try clear c6
    try clear c6b0
    try clear c6b1
    try clear c7
    try clear c8
    try clear c8b0
    try clear c8b1
    try clear c9
    try clear c9b0
    try clear c9b1
    try clear c10
    try clear c10b0
    try clear c10b1
    try clear c12
    try clear c12b0
    try clear c12b1
    try clear c13
    try clear c13b0
    try clear c13b1
    try clear p14
    try clear q14
    try clear hx14
    try clear qi14
    try clear p15
    try clear q15
    try clear hx15
    try clear qi15
    try clear hx149_0
    try clear hx150_0
    try clear hx151_0
    try clear hx152_0
    try clear p149
    try clear p150
    try clear p151
    try clear p152
    try clear q149
    try clear q150
    try clear q151
    try clear q152
    obtain ⟨kq, x34_2, rfl, HA, HJ2, HO_4, BK145, HB⟩ := hcut
    cases kq with
    | zero => exact absurd HA.out (by simp [spec_l01ReadHalf.j0])
    | succ kj2 =>
      have H := HA.out
      clear HA
      simp only [spec_l01ReadHalf.j0] at H
      by_cases c16 : x34_2 = true
      · subst c16
        have H1 : (some (false, ([] : List (S62)), (Vector.replicate 16 0 : Vector Int 16), false)) = some (r1, r2, r3, r4) := by rw [if_pos rfl] at H; exact H
        clear H
        have H := H1
        clear H1
        simp only [Option.some.injEq, Prod.mk.injEq] at H
        obtain ⟨rfl, rfl, rfl, rfl⟩ := H
        go_wp2_with (first | ((with_reducible refine gate_store (t := 45) (p := 2) rfl ?_); refine Arr.storeA ?hg (T := 45) (p := 2) (v := ?vo_w18) ?ho ?hn (g := gb145) (off := 0) ?hx (m := ((.bool false) :: (.slice none 0 0) :: Arr.arL .i8 (Vector.replicate 16 0 : Vector Int 16))) ?hy (t := 45) (pre := []) (old := ((.bool false) :: (.slice none 0 0) :: Arr.arL .i8 (Vector.replicate 16 0 : Vector Int 16))) (show wc.heap[gb145]? = some (.cells (⟨(.bool false) :: (.slice none 0 0) :: Arr.arL .i8 (Vector.replicate 16 0 : Vector Int 16)⟩ : Array Value) 45 (0, 0)) from by (with_reducible repeat (first | refine blk_drewN ?_ _ | refine blk_drew ?_ | refine blk_alloc ?_ _)); exact BK145.out) rfl (by simp [Arr.arL_length]) (n := 18) (by kernel_rfl) (by simp [Arr.arL_length]) (Arr.ones_2 rfl rfl) ?_; (case ho => rfl); (case hg => rfl); (case hn => rfl); (case hx => first | (go_simp; done) | rfl | (go_simp; rfl)); (case hy => first | (go_simp; done) | rfl | (go_simp; rfl)); intro w18 hbx hg hbe; replace hbx : w18.heap[gb145]? = some (.cells (⟨(.bool false) :: (.slice none 0 0) :: Arr.arL .i8 (Vector.replicate 16 0 : Vector Int 16)⟩ : Array Value) 45 (0, 0)) := hbx; have n0_ := Aside0.mk (Kd.R_grown1 (by (with_reducible repeat (first | apply Kd.R_alloc | apply Kd.R_drewN | apply Kd.R_drew)); exact HO_4.out) rfl hg (Kd.R_ne HO_4.out BK145.out (by decide))); have n1_ := Aside0.mk (hbx); have n2_ := Aside0.mk (hbe _ _ (by repeat (first | (with_reducible first | exact HB.out | apply below_alloc | apply pw_below_drewN | apply below_drew1 | refine below_set ?_ GE145.out) | exact HB.out)) GE145.out); clear HO_4; clear BK145; clear HB; have HO_4 := n0_; have BK145 := n1_; have HB := n2_; clear n0_ n1_ n2_; (try clear hbx hg hbe)))
        refine bodyPost_ret (results_ct rfl _ _ gb145 45 (⟨(.bool false) :: (.slice none 0 0) :: Arr.arL .i8 (Vector.replicate 16 0 : Vector Int 16)⟩ : Array Value) (0, 0) _ rfl (by (with_reducible repeat (first | refine blk_drewN ?_ _ | refine blk_drew ?_ | refine blk_alloc ?_ _)); exact BK145.out) Tryd.underlying45 rfl (by rw [show (Tryd.prog.info? 45).map (·.size) = some 18 from by kernel_rfl]; simp [Arr.arL_length])) rfl ?_
        exact ⟨_, by first | rfl | (simp [errW_none, errW_some] <;> rfl) | (simp [*, errW_none, errW_some] <;> rfl), by first | exact Kd.R_nil _ _ _ _ _ | exact Kd.N_nil _ _ _ _ _ | exact Kd.V_nil _ _ _ _ _ | exact Kd.Q_nil _ _ _ _ _ | exact Kd.S_nil _ _ _ _ _, by repeat (first | (with_reducible first | exact HB.out | apply below_alloc | apply pw_below_drewN | apply below_drew1 | refine below_set ?_ GE145.out) | exact HB.out)⟩
      · replace c16 := Bool.eq_false_iff.mpr c16
        subst c16
        have H1 : (if 0 < (t146.length : Int) then (spec_l01ReadHalf.l0 kj2 t146 0 ((rdOf ByteArray.empty t146 0).toList == ([115, 116, 111, 99, 107] : List UInt8)) (Vector.replicate 16 0 : Vector Int 16)) else (none)) = some (r1, r2, r3, r4) := by rw [if_neg (show ¬ (false = true) by decide)] at H; exact H
        clear H
        have H := H1
        clear H1
        by_cases c19 : 0 < (t146.length : Int)
        · rw [if_pos c19] at H
          have c19b0 : decide (0 < (t146.length : Int)) = true := decide_eq_true c19
          have c19b1 : decide (0 < t146.length) = true := decide_eq_true (by omega)
          clear c19
          have H' := Aside0.mk H
          clear H
          obtain ⟨Ao21, co21, eo21⟩ := Kd.R_slice HO_4.out
          subst eo21
          have p153 : 0 ≤ (0 : Int) := (by omega)
          have q153 : 0 < (t146.length : Int) := of_decide_eq_true (by first | (with_reducible assumption) | assumption)
          obtain ⟨ad153, e153, hx153_0⟩ := Kd.at_string (Kd.R_reads' HO_4.out).2.2 0 p153 q153
          cases e153
          have qi153 : (0 < t146.length) = True := eq_true (by omega)
          (try rw [show ((0 : Int)).toNat = 0 from rfl] at hx153_0)
          (try rw [Addr.add_zero'] at hx153_0)
          replace p153 := eq_true p153
          replace q153 := eq_true q153
          go_wp2_with (first | ((with_reducible refine gate_dst (N := 5) rfl ?_); (try (refine gate_guard (by rfl) ?_; dsimp only)); refine box_event ?hg (N := 5) ?hd (cs := (⟨(.bool false) :: (.slice none 0 0) :: Arr.arL .i8 (Vector.replicate 16 0 : Vector Int 16)⟩ : Array Value)) (t := 45) ?hr ?_; (case hd => rfl); (case hg => rfl); (case hr => first | (go_simp; done) | (go_simp; rfl)); intro gb154 hg w22 hbox hb; have n0_ := Aside0.mk (Kd.R_below (by (with_reducible repeat (first | apply Kd.R_alloc | apply Kd.R_drewN | apply Kd.R_drew)); exact HO_4.out) hb); have n1_ := Aside0.mk (blk_below (g := gb145) (o := .cells (⟨(.bool false) :: (.slice none 0 0) :: Arr.arL .i8 (Vector.replicate 16 0 : Vector Int 16)⟩ : Array Value) 45 (0, 0)) (by (with_reducible repeat (first | refine blk_drewN ?_ _ | refine blk_drew ?_ | refine blk_alloc ?_ _)); exact BK145.out) hb); have n2_ := Aside0.mk (below_step (by repeat (first | (with_reducible first | exact HB.out | apply below_alloc | apply pw_below_drewN | apply below_drew1 | refine below_set ?_ GE145.out) | exact HB.out)) hb); have n3_ := Aside0.mk (hbox); have n4_ := Aside0.mk ((by rw [hg]; exact (below_size (by repeat (first | (with_reducible first | exact HB.out | apply below_alloc | apply pw_below_drewN | apply below_drew1 | refine below_set ?_ GE145.out) | exact HB.out))) : w.heap.size ≤ gb154)); have n5_ := Aside0.mk ((by rw [hg]; exact (below_size (by repeat (first | (with_reducible first | exact HB.out | apply below_alloc | apply pw_below_drewN | apply below_drew1 | refine below_set ?_ GE145.out) | exact HB.out))) : w.heap.size ≤ gb154)); have n6_ := Aside0.mk ((by rw [hg]; exact Nat.ne_of_lt (blk_lt (g := gb145) (o := .cells (⟨(.bool false) :: (.slice none 0 0) :: Arr.arL .i8 (Vector.replicate 16 0 : Vector Int 16)⟩ : Array Value) 45 (0, 0)) (by (with_reducible repeat (first | refine blk_drewN ?_ _ | refine blk_drew ?_ | refine blk_alloc ?_ _)); exact BK145.out)) : gb145 ≠ gb154)); have n7_ := Aside0.mk ((by rw [hg]; exact Nat.ne_of_gt (blk_lt (g := gb145) (o := .cells (⟨(.bool false) :: (.slice none 0 0) :: Arr.arL .i8 (Vector.replicate 16 0 : Vector Int 16)⟩ : Array Value) 45 (0, 0)) (by (with_reducible repeat (first | refine blk_drewN ?_ _ | refine blk_drew ?_ | refine blk_alloc ?_ _)); exact BK145.out)) : gb154 ≠ gb145)); clear HO_4; clear BK145; clear HB; have HO_4 := n0_; have BK145 := n1_; have HB := n2_; have BK154 := n3_; have GW154 := n4_; have GE154 := n5_; have NB145_154 := n6_; have NB154_145 := n7_; clear n0_ n1_ n2_ n3_ n4_ n5_ n6_ n7_; clear hb hbox hg) | ((with_reducible refine gate_store (t := 45) (p := 5) rfl ?_); refine Arr.storeA ?hg (T := 45) (p := 5) (v := ?vo_w23) ?ho ?hn (g := gb154) (off := 0) ?hx (m := ((.bool ((rdOf ByteArray.empty t146 0).toList == ([115, 116, 111, 99, 107] : List UInt8))) :: (.slice none 0 0) :: Arr.arL .i8 (Vector.replicate 16 0 : Vector Int 16))) ?hy (t := 45) (pre := []) (old := ((.bool false) :: (.slice none 0 0) :: Arr.arL .i8 (Vector.replicate 16 0 : Vector Int 16))) (show w22.heap[gb154]? = some (.cells (⟨(.bool false) :: (.slice none 0 0) :: Arr.arL .i8 (Vector.replicate 16 0 : Vector Int 16)⟩ : Array Value) 45 (0, 0)) from by (with_reducible repeat (first | refine blk_drewN ?_ _ | refine blk_drew ?_ | refine blk_alloc ?_ _)); exact BK154.out) rfl (by simp [Arr.arL_length]) (n := 18) (by kernel_rfl) (by simp [Arr.arL_length]) (Arr.ones_2 rfl rfl) ?_; (case ho => rfl); (case hg => rfl); (case hn => rfl); (case hx => first | (go_simp; done) | rfl | (go_simp; rfl)); (case hy => first | (go_simp; done) | rfl | (go_simp; rfl)); intro w23 hbx hg hbe; replace hbx : w23.heap[gb154]? = some (.cells (⟨(.bool ((rdOf ByteArray.empty t146 0).toList == ([115, 116, 111, 99, 107] : List UInt8))) :: (.slice none 0 0) :: Arr.arL .i8 (Vector.replicate 16 0 : Vector Int 16)⟩ : Array Value) 45 (0, 0)) := hbx; have n0_ := Aside0.mk (Kd.R_grown1 (by (with_reducible repeat (first | apply Kd.R_alloc | apply Kd.R_drewN | apply Kd.R_drew)); exact HO_4.out) rfl hg (Kd.R_ne HO_4.out BK154.out (by decide))); have n1_ := Aside0.mk (blk_grown (g := gb145) (o := .cells (⟨(.bool false) :: (.slice none 0 0) :: Arr.arL .i8 (Vector.replicate 16 0 : Vector Int 16)⟩ : Array Value) 45 (0, 0)) (by (with_reducible repeat (first | refine blk_drewN ?_ _ | refine blk_drew ?_ | refine blk_alloc ?_ _)); exact BK145.out) hg (fun e_ => NB145_154.out (Option.some.inj e_))); have n2_ := Aside0.mk (hbx); have n3_ := Aside0.mk (hbe _ _ (by repeat (first | (with_reducible first | exact HB.out | apply below_alloc | apply pw_below_drewN | apply below_drew1 | refine below_set ?_ GE145.out | refine below_set ?_ GE154.out) | exact HB.out)) GE154.out); clear HO_4; clear BK145; clear BK154; clear HB; have HO_4 := n0_; have BK145 := n1_; have BK154 := n2_; have HB := n3_; clear n0_ n1_ n2_ n3_; (try clear hbx hg hbe)))
          go_loopg [6] kj2 (fun kq v6 w' => ∃ (x6_2 : Int) (x146000_2 : Bool) (x146002_2 : Vector Int 16) (x155002_2 : Vector Int 16), v6 = .int .i64 x6_2 ∧ Aside0 (spec_l01ReadHalf.l0 kq t146 x6_2 ((rdOf ByteArray.empty t146 0).toList == ([115, 116, 111, 99, 107] : List UInt8)) x155002_2 = some (r1, r2, r3, r4)) ∧ Aside0 (kq ≤ kj2) ∧ Aside0 (Kd.R Kd.string 9 w' w.heap.size (fun _ => True) (.slice (some ad153) t146.length co21) t146) ∧ Aside0 (w'.heap[gb145]? = some (.cells (⟨(.bool x146000_2) :: ((.slice none 0 0)) :: Arr.arL .i8 x146002_2⟩ : Array Value) 45 (0, 0))) ∧ Aside0 (w'.heap[gb154]? = some (.cells (⟨(.bool ((rdOf ByteArray.empty t146 0).toList == ([115, 116, 111, 99, 107] : List UInt8))) :: ((.slice none 0 0)) :: Arr.arL .i8 x155002_2⟩ : Array Value) 45 (0, 0))) ∧ Aside0 (Below w.heap.size w w'))
          case atStart => exact ⟨(0), (false), ((Vector.replicate 16 0 : Vector Int 16)), ((Vector.replicate 16 0 : Vector Int 16)), (by first | rfl | (simp; done) | (simp [*]; done)), H', ⟨Nat.le_refl _⟩, ⟨by (with_reducible repeat (first | apply Kd.R_alloc | apply Kd.R_drewN | apply Kd.R_drew)); exact HO_4.out⟩, ⟨by (with_reducible repeat (first | refine blk_drewN ?_ _ | refine blk_drew ?_ | refine blk_alloc ?_ _)); exact BK145.out⟩, ⟨by (with_reducible repeat (first | refine blk_drewN ?_ _ | refine blk_drew ?_ | refine blk_alloc ?_ _)); exact BK154.out⟩, ⟨by repeat (first | (with_reducible first | exact HB.out | apply below_alloc | apply pw_below_drewN | apply below_drew1 | refine below_set ?_ GE145.out | refine below_set ?_ GE154.out) | exact HB.out)⟩⟩
          case round =>
            clear H'
            try clear c1
            try clear p1
            try clear q1
            try clear hx1
            try clear qi1
            try clear p2
            try clear c6
            try clear c6b0
            try clear c6b1
            try clear c7
            try clear c8
            try clear c8b0
            try clear c8b1
            try clear c9
            try clear c9b0
            try clear c9b1
            try clear c10
            try clear c10b0
            try clear c10b1
            try clear c12
            try clear c12b0
            try clear c12b1
            try clear c13
            try clear c13b0
            try clear c13b1
            try clear p14
            try clear q14
            try clear hx14
            try clear qi14
            try clear p15
            try clear q15
            try clear hx15
            try clear qi15
            try clear c16
            try clear c19
            try clear c19b0
            try clear c19b1
            try clear hx149_0
            try clear hx150_0
            try clear hx151_0
            try clear hx152_0
            try clear hx153_0
            try clear p1
            try clear p14
            try clear p149
            try clear p15
            try clear p150
            try clear p151
            try clear p152
            try clear p153
            try clear p2
            try clear q1
            try clear q14
            try clear q149
            try clear q15
            try clear q150
            try clear q151
            try clear q152
            try clear q153
            obtain ⟨x6_2, x146000_2, x146002_2, x155002_2, rfl, HA, HK2, HO_4, BK145, BK154, HB⟩ := hrel
            cases gk with
            | zero => exact absurd HA.out (by simp [spec_l01ReadHalf.l0])
            | succ k2 =>
              have H := HA.out
              clear HA
              simp only [spec_l01ReadHalf.l0] at H
              by_cases c24 : x6_2 < 16
              · rw [if_pos c24] at H
                have c24b0 : decide (x6_2 < 16) = true := decide_eq_true c24
                clear c24
                by_cases c25 : 1 < (t146.length : Int)
                · rw [if_pos c25] at H
                  have c25b0 : decide (1 < (t146.length : Int)) = true := decide_eq_true c25
                  have c25b1 : decide (1 < t146.length) = true := decide_eq_true (by omega)
                  clear c25
                  by_cases c26 : 0 ≤ x6_2
                  · rw [if_pos c26] at H
                    have c26b0 : decide (0 ≤ x6_2) = true := decide_eq_true c26
                    clear c26
                    by_cases c27 : x6_2 < ((rdOf ByteArray.empty t146 1).size : Int)
                    · rw [if_pos c27] at H
                      have c27b0 : decide (x6_2 < ((rdOf ByteArray.empty t146 1).size : Int)) = true := decide_eq_true c27
                      clear c27
                      by_cases c29 : (bt (rdOf ByteArray.empty t146 1) x6_2) < 97
                      · rw [if_pos c29] at H
                        have c29b0 : decide ((bt (rdOf ByteArray.empty t146 1) x6_2) < 97) = true := decide_eq_true c29
                        clear c29
                        simp only [Option.some.injEq, Prod.mk.injEq] at H
                        obtain ⟨rfl, rfl, rfl, rfl⟩ := H
                        have p155 : 0 ≤ (1 : Int) := (by omega)
                        have q155 : 1 < (t146.length : Int) := of_decide_eq_true (by first | (with_reducible assumption) | assumption)
                        obtain ⟨ad155, e155, hx155_0⟩ := Kd.at_string (Kd.R_reads' HO_4.out).2.2 1 p155 q155
                        obtain rfl : ad153 = ad155 := (by injection e155)
                        (try simp only [show (1 : Int).toNat = 1 from rfl, Nat.reduceMul, Nat.reduceEqDiff, Go.Addr.add, ↓reduceIte] at hx155_0)
                        have qi155 : (1 < t146.length) = True := eq_true (by omega)
                        (try rw [show ((1 : Int)).toNat = 1 from rfl] at hx155_0)
                        replace p155 := eq_true p155
                        replace q155 := eq_true q155
                        have p28 : 0 ≤ (x6_2 : Int) := of_decide_eq_true (by first | (with_reducible assumption) | assumption)
                        have q28 : x6_2 < ((rdOf ByteArray.empty t146 1).size : Int) := of_decide_eq_true (by first | (with_reducible assumption) | assumption)
                        have hx28 := bt_at (rdOf ByteArray.empty t146 1) x6_2
                        replace p28 := eq_true p28
                        replace q28 := eq_true q28
                        go_wp2_with (first | ((with_reducible refine Arr.gate_load (t := 45) (p := 5) rfl ?_); (try (refine gate_guard (by rfl) ?_; dsimp only)); refine Arr.loadA ?hg (T := 45) (p := 5) ?ho (g := gb154) (off := 0) ?hx (t := 45) (l := ((.bool ((rdOf ByteArray.empty t146 0).toList == ([115, 116, 111, 99, 107] : List UInt8))) :: (.slice none 0 0) :: Arr.arL .i8 x155002_2)) (m := ((.bool ((rdOf ByteArray.empty t146 0).toList == ([115, 116, 111, 99, 107] : List UInt8))) :: (.slice none 0 0) :: Arr.arL .i8 x155002_2)) (fr := (0, 0)) (show wr.heap[gb154]? = some (.cells (⟨(.bool ((rdOf ByteArray.empty t146 0).toList == ([115, 116, 111, 99, 107] : List UInt8))) :: (.slice none 0 0) :: Arr.arL .i8 x155002_2⟩ : Array Value) 45 (0, 0)) from by (with_reducible repeat (first | refine blk_drewN ?_ _ | refine blk_drew ?_ | refine blk_alloc ?_ _)); exact BK154.out) rfl Tryd.underlying45 rfl (n := 18) (by kernel_rfl) (by simp [Arr.arL_length]) ?_; (case hg => rfl); (case ho => rfl); (case hx => first | (go_simp; done) | rfl | (go_simp; rfl))) | ((with_reducible refine gate_store (t := 45) (p := 2) rfl ?_); refine Arr.storeA ?hg (T := 45) (p := 2) (v := ?vo_w32) ?ho ?hn (g := gb145) (off := 0) ?hx (m := ((.bool ((rdOf ByteArray.empty t146 0).toList == ([115, 116, 111, 99, 107] : List UInt8))) :: (.slice none 0 0) :: Arr.arL .i8 x155002_2)) ?hy (t := 45) (pre := []) (old := ((.bool x146000_2) :: (.slice none 0 0) :: Arr.arL .i8 x146002_2)) (show wr.heap[gb145]? = some (.cells (⟨(.bool x146000_2) :: (.slice none 0 0) :: Arr.arL .i8 x146002_2⟩ : Array Value) 45 (0, 0)) from by (with_reducible repeat (first | refine blk_drewN ?_ _ | refine blk_drew ?_ | refine blk_alloc ?_ _)); exact BK145.out) rfl (by simp [Arr.arL_length]) (n := 18) (by kernel_rfl) (by simp [Arr.arL_length]) (Arr.ones_2 rfl rfl) ?_; (case ho => rfl); (case hg => rfl); (case hn => rfl); (case hx => first | (go_simp; done) | rfl | (go_simp; rfl)); (case hy => first | (go_simp; done) | rfl | (go_simp; rfl)); intro w32 hbx hg hbe; replace hbx : w32.heap[gb145]? = some (.cells (⟨(.bool ((rdOf ByteArray.empty t146 0).toList == ([115, 116, 111, 99, 107] : List UInt8))) :: (.slice none 0 0) :: Arr.arL .i8 x155002_2⟩ : Array Value) 45 (0, 0)) := hbx; have n0_ := Aside0.mk (Kd.R_grown1 (by (with_reducible repeat (first | apply Kd.R_alloc | apply Kd.R_drewN | apply Kd.R_drew)); exact HO_4.out) rfl hg (Kd.R_ne HO_4.out BK145.out (by decide))); have n1_ := Aside0.mk (hbx); have n2_ := Aside0.mk (blk_grown (g := gb154) (o := .cells (⟨(.bool ((rdOf ByteArray.empty t146 0).toList == ([115, 116, 111, 99, 107] : List UInt8))) :: (.slice none 0 0) :: Arr.arL .i8 x155002_2⟩ : Array Value) 45 (0, 0)) (by (with_reducible repeat (first | refine blk_drewN ?_ _ | refine blk_drew ?_ | refine blk_alloc ?_ _)); exact BK154.out) hg (fun e_ => NB154_145.out (Option.some.inj e_))); have n3_ := Aside0.mk (hbe _ _ (by repeat (first | (with_reducible first | exact HB.out | apply below_alloc | apply pw_below_drewN | apply below_drew1 | refine below_set ?_ GE145.out | refine below_set ?_ GE154.out) | exact HB.out)) GE145.out); clear HO_4; clear BK145; clear BK154; clear HB; have HO_4 := n0_; have BK145 := n1_; have BK154 := n2_; have HB := n3_; clear n0_ n1_ n2_ n3_; (try clear hbx hg hbe)))
                        refine bodyPost_ret (results_ct rfl _ _ gb145 45 (⟨(.bool ((rdOf ByteArray.empty t146 0).toList == ([115, 116, 111, 99, 107] : List UInt8))) :: (.slice none 0 0) :: Arr.arL .i8 x155002_2⟩ : Array Value) (0, 0) _ rfl (by (with_reducible repeat (first | refine blk_drewN ?_ _ | refine blk_drew ?_ | refine blk_alloc ?_ _)); exact BK145.out) Tryd.underlying45 rfl (by rw [show (Tryd.prog.info? 45).map (·.size) = some 18 from by kernel_rfl]; simp [Arr.arL_length])) rfl ?_
                        exact ⟨_, by first | rfl | (simp [errW_none, errW_some] <;> rfl) | (simp [*, errW_none, errW_some] <;> rfl), by first | exact Kd.R_nil _ _ _ _ _ | exact Kd.N_nil _ _ _ _ _ | exact Kd.V_nil _ _ _ _ _ | exact Kd.Q_nil _ _ _ _ _ | exact Kd.S_nil _ _ _ _ _, by repeat (first | (with_reducible first | exact HB.out | apply below_alloc | apply pw_below_drewN | apply below_drew1 | refine below_set ?_ GE145.out | refine below_set ?_ GE154.out) | exact HB.out)⟩
                      · rw [if_neg c29] at H
                        have c29b0 : decide ((bt (rdOf ByteArray.empty t146 1) x6_2) < 97) = false := decide_eq_false c29
                        clear c29
                        by_cases c33 : (bt (rdOf ByteArray.empty t146 1) x6_2) > 103
                        · rw [if_pos c33] at H
                          have c33b0 : decide (103 < (bt (rdOf ByteArray.empty t146 1) x6_2)) = true := decide_eq_true c33
                          clear c33
                          simp only [Option.some.injEq, Prod.mk.injEq] at H
                          obtain ⟨rfl, rfl, rfl, rfl⟩ := H
                          have p155 : 0 ≤ (1 : Int) := (by omega)
                          have q155 : 1 < (t146.length : Int) := of_decide_eq_true (by first | (with_reducible assumption) | assumption)
                          obtain ⟨ad155, e155, hx155_0⟩ := Kd.at_string (Kd.R_reads' HO_4.out).2.2 1 p155 q155
                          obtain rfl : ad153 = ad155 := (by injection e155)
                          (try simp only [show (1 : Int).toNat = 1 from rfl, Nat.reduceMul, Nat.reduceEqDiff, Go.Addr.add, ↓reduceIte] at hx155_0)
                          have qi155 : (1 < t146.length) = True := eq_true (by omega)
                          (try rw [show ((1 : Int)).toNat = 1 from rfl] at hx155_0)
                          replace p155 := eq_true p155
                          replace q155 := eq_true q155
                          have p28 : 0 ≤ (x6_2 : Int) := of_decide_eq_true (by first | (with_reducible assumption) | assumption)
                          have q28 : x6_2 < ((rdOf ByteArray.empty t146 1).size : Int) := of_decide_eq_true (by first | (with_reducible assumption) | assumption)
                          have hx28 := bt_at (rdOf ByteArray.empty t146 1) x6_2
                          replace p28 := eq_true p28
                          replace q28 := eq_true q28
                          go_wp2_with (first | ((with_reducible refine Arr.gate_load (t := 45) (p := 5) rfl ?_); (try (refine gate_guard (by rfl) ?_; dsimp only)); refine Arr.loadA ?hg (T := 45) (p := 5) ?ho (g := gb154) (off := 0) ?hx (t := 45) (l := ((.bool ((rdOf ByteArray.empty t146 0).toList == ([115, 116, 111, 99, 107] : List UInt8))) :: (.slice none 0 0) :: Arr.arL .i8 x155002_2)) (m := ((.bool ((rdOf ByteArray.empty t146 0).toList == ([115, 116, 111, 99, 107] : List UInt8))) :: (.slice none 0 0) :: Arr.arL .i8 x155002_2)) (fr := (0, 0)) (show wr.heap[gb154]? = some (.cells (⟨(.bool ((rdOf ByteArray.empty t146 0).toList == ([115, 116, 111, 99, 107] : List UInt8))) :: (.slice none 0 0) :: Arr.arL .i8 x155002_2⟩ : Array Value) 45 (0, 0)) from by (with_reducible repeat (first | refine blk_drewN ?_ _ | refine blk_drew ?_ | refine blk_alloc ?_ _)); exact BK154.out) rfl Tryd.underlying45 rfl (n := 18) (by kernel_rfl) (by simp [Arr.arL_length]) ?_; (case hg => rfl); (case ho => rfl); (case hx => first | (go_simp; done) | rfl | (go_simp; rfl))) | ((with_reducible refine gate_store (t := 45) (p := 2) rfl ?_); refine Arr.storeA ?hg (T := 45) (p := 2) (v := ?vo_w36) ?ho ?hn (g := gb145) (off := 0) ?hx (m := ((.bool ((rdOf ByteArray.empty t146 0).toList == ([115, 116, 111, 99, 107] : List UInt8))) :: (.slice none 0 0) :: Arr.arL .i8 x155002_2)) ?hy (t := 45) (pre := []) (old := ((.bool x146000_2) :: (.slice none 0 0) :: Arr.arL .i8 x146002_2)) (show wr.heap[gb145]? = some (.cells (⟨(.bool x146000_2) :: (.slice none 0 0) :: Arr.arL .i8 x146002_2⟩ : Array Value) 45 (0, 0)) from by (with_reducible repeat (first | refine blk_drewN ?_ _ | refine blk_drew ?_ | refine blk_alloc ?_ _)); exact BK145.out) rfl (by simp [Arr.arL_length]) (n := 18) (by kernel_rfl) (by simp [Arr.arL_length]) (Arr.ones_2 rfl rfl) ?_; (case ho => rfl); (case hg => rfl); (case hn => rfl); (case hx => first | (go_simp; done) | rfl | (go_simp; rfl)); (case hy => first | (go_simp; done) | rfl | (go_simp; rfl)); intro w36 hbx hg hbe; replace hbx : w36.heap[gb145]? = some (.cells (⟨(.bool ((rdOf ByteArray.empty t146 0).toList == ([115, 116, 111, 99, 107] : List UInt8))) :: (.slice none 0 0) :: Arr.arL .i8 x155002_2⟩ : Array Value) 45 (0, 0)) := hbx; have n0_ := Aside0.mk (Kd.R_grown1 (by (with_reducible repeat (first | apply Kd.R_alloc | apply Kd.R_drewN | apply Kd.R_drew)); exact HO_4.out) rfl hg (Kd.R_ne HO_4.out BK145.out (by decide))); have n1_ := Aside0.mk (hbx); have n2_ := Aside0.mk (blk_grown (g := gb154) (o := .cells (⟨(.bool ((rdOf ByteArray.empty t146 0).toList == ([115, 116, 111, 99, 107] : List UInt8))) :: (.slice none 0 0) :: Arr.arL .i8 x155002_2⟩ : Array Value) 45 (0, 0)) (by (with_reducible repeat (first | refine blk_drewN ?_ _ | refine blk_drew ?_ | refine blk_alloc ?_ _)); exact BK154.out) hg (fun e_ => NB154_145.out (Option.some.inj e_))); have n3_ := Aside0.mk (hbe _ _ (by repeat (first | (with_reducible first | exact HB.out | apply below_alloc | apply pw_below_drewN | apply below_drew1 | refine below_set ?_ GE145.out | refine below_set ?_ GE154.out) | exact HB.out)) GE145.out); clear HO_4; clear BK145; clear BK154; clear HB; have HO_4 := n0_; have BK145 := n1_; have BK154 := n2_; have HB := n3_; clear n0_ n1_ n2_ n3_; (try clear hbx hg hbe)))
                          refine bodyPost_ret (results_ct rfl _ _ gb145 45 (⟨(.bool ((rdOf ByteArray.empty t146 0).toList == ([115, 116, 111, 99, 107] : List UInt8))) :: (.slice none 0 0) :: Arr.arL .i8 x155002_2⟩ : Array Value) (0, 0) _ rfl (by (with_reducible repeat (first | refine blk_drewN ?_ _ | refine blk_drew ?_ | refine blk_alloc ?_ _)); exact BK145.out) Tryd.underlying45 rfl (by rw [show (Tryd.prog.info? 45).map (·.size) = some 18 from by kernel_rfl]; simp [Arr.arL_length])) rfl ?_
                          exact ⟨_, by first | rfl | (simp [errW_none, errW_some] <;> rfl) | (simp [*, errW_none, errW_some] <;> rfl), by first | exact Kd.R_nil _ _ _ _ _ | exact Kd.N_nil _ _ _ _ _ | exact Kd.V_nil _ _ _ _ _ | exact Kd.Q_nil _ _ _ _ _ | exact Kd.S_nil _ _ _ _ _, by repeat (first | (with_reducible first | exact HB.out | apply below_alloc | apply pw_below_drewN | apply below_drew1 | refine below_set ?_ GE145.out | refine below_set ?_ GE154.out) | exact HB.out)⟩
                        · rw [if_neg c33] at H
                          have c33b0 : decide (103 < (bt (rdOf ByteArray.empty t146 1) x6_2)) = false := decide_eq_false c33
                          clear c33
                          obtain ⟨y156, hy156⟩ : ∃ y_ : Vector Int 16, y_ = (Arr.vst x155002_2 x6_2 (IntKind.i8.wrap ((IntKind.i8.wrap (bt (rdOf ByteArray.empty t146 1) x6_2)) - 100))) := ⟨_, rfl⟩
                          replace H : (spec_l01ReadHalf.l0 k2 t146 (wrap64 (x6_2 + 1)) ((rdOf ByteArray.empty t146 0).toList == ([115, 116, 111, 99, 107] : List UInt8)) y156) = some (r1, r2, r3, r4) := by first | (rw [hy156]; with_reducible exact H) | (have H2_ := (Option.bind_some _ _).symm.trans H; rw [hy156]; with_reducible exact H2_) | (have H2_ := (Option.bind_some _ _).symm.trans H; with_reducible exact H2_) | with_reducible exact H | (rw [hy156]; exact H) | exact H
                          have Ny156 := Aside0.mk hy156
                          clear hy156
                          have H' := Aside0.mk H
                          clear H
                          have p155 : 0 ≤ (1 : Int) := (by omega)
                          have q155 : 1 < (t146.length : Int) := of_decide_eq_true (by first | (with_reducible assumption) | assumption)
                          obtain ⟨ad155, e155, hx155_0⟩ := Kd.at_string (Kd.R_reads' HO_4.out).2.2 1 p155 q155
                          obtain rfl : ad153 = ad155 := (by injection e155)
                          (try simp only [show (1 : Int).toNat = 1 from rfl, Nat.reduceMul, Nat.reduceEqDiff, Go.Addr.add, ↓reduceIte] at hx155_0)
                          have qi155 : (1 < t146.length) = True := eq_true (by omega)
                          (try rw [show ((1 : Int)).toNat = 1 from rfl] at hx155_0)
                          replace p155 := eq_true p155
                          replace q155 := eq_true q155
                          have p28 : 0 ≤ (x6_2 : Int) := of_decide_eq_true (by first | (with_reducible assumption) | assumption)
                          have q28 : x6_2 < ((rdOf ByteArray.empty t146 1).size : Int) := of_decide_eq_true (by first | (with_reducible assumption) | assumption)
                          have hx28 := bt_at (rdOf ByteArray.empty t146 1) x6_2
                          replace p28 := eq_true p28
                          replace q28 := eq_true q28
                          have p37 : 0 ≤ (x6_2 : Int) := of_decide_eq_true (by first | (with_reducible assumption) | assumption)
                          have q37 : (x6_2 : Int) < 16 := of_decide_eq_true (by first | (with_reducible assumption) | assumption)
                          replace p37 := eq_true p37
                          replace q37 := eq_true q37
                          go_wp2_with (first | ((with_reducible refine gate_store (t := 36) (p := 62) rfl ?_); have hx38 : wr.cell? ⟨gb154, 2 + x6_2.toNat, none⟩ = some (.int .i8 (Arr.vrd x155002_2 x6_2)) := Arr.cellN (off := 2) (l := ((.bool ((rdOf ByteArray.empty t146 0).toList == ([115, 116, 111, 99, 107] : List UInt8))) :: (.slice none 0 0) :: Arr.arL .i8 x155002_2)) (show wr.heap[gb154]? = some (.cells (⟨(.bool ((rdOf ByteArray.empty t146 0).toList == ([115, 116, 111, 99, 107] : List UInt8))) :: (.slice none 0 0) :: Arr.arL .i8 x155002_2⟩ : Array Value) 45 (0, 0)) from by (with_reducible repeat (first | refine blk_drewN ?_ _ | refine blk_drew ?_ | refine blk_alloc ?_ _)); exact BK154.out) rfl (2 + x6_2.toNat) (x6_2.toNat) (by omega) (by have a0_ := of_eq_true p37; have b0_ := of_eq_true q37; omega); have hf38 := blk_frozen (show wr.heap[gb154]? = some (.cells (⟨(.bool ((rdOf ByteArray.empty t146 0).toList == ([115, 116, 111, 99, 107] : List UInt8))) :: (.slice none 0 0) :: Arr.arL .i8 x155002_2⟩ : Array Value) 45 (0, 0)) from by (with_reducible repeat (first | refine blk_drewN ?_ _ | refine blk_drew ?_ | refine blk_alloc ?_ _)); exact BK154.out) (2 + x6_2.toNat); refine Arr.putN ?hg (T := 36) (p := 62) (v := ?vo_w39) ?ho ?hn (g := gb154) (off := 2) (m := 2 + x6_2.toNat) (n := x6_2.toNat) (k := .i8) (y := (IntKind.i8.wrap ((IntKind.i8.wrap (bt (rdOf ByteArray.empty t146 1) x6_2)) - 100))) (x := x155002_2) (t := 45) (pre := [.bool ((rdOf ByteArray.empty t146 0).toList == ([115, 116, 111, 99, 107] : List UInt8)), .slice none 0 0]) (show wr.heap[gb154]? = some (.cells (⟨(.bool ((rdOf ByteArray.empty t146 0).toList == ([115, 116, 111, 99, 107] : List UInt8))) :: (.slice none 0 0) :: Arr.arL .i8 x155002_2⟩ : Array Value) 45 (0, 0)) from by (with_reducible repeat (first | refine blk_drewN ?_ _ | refine blk_drew ?_ | refine blk_alloc ?_ _)); exact BK154.out) ?hp (by omega) ?hr ?_; (case ho => rfl); (case hg => rfl); (case hn => rfl); (case hp => rfl); (case hr => first | (go_simp; done) | (go_simp; rfl)); intro w39 hbx hg hbe; replace hbx : w39.heap[gb154]? = some (.cells (⟨(.bool ((rdOf ByteArray.empty t146 0).toList == ([115, 116, 111, 99, 107] : List UInt8))) :: (.slice none 0 0) :: Arr.arL .i8 y156⟩ : Array Value) 45 (0, 0)) := (by rw [Ny156.out]; exact hbx); have n0_ := Aside0.mk (Kd.R_grown1 (by (with_reducible repeat (first | apply Kd.R_alloc | apply Kd.R_drewN | apply Kd.R_drew)); exact HO_4.out) rfl hg (Kd.R_ne HO_4.out BK154.out (by decide))); have n1_ := Aside0.mk (blk_grown (g := gb145) (o := .cells (⟨(.bool x146000_2) :: (.slice none 0 0) :: Arr.arL .i8 x146002_2⟩ : Array Value) 45 (0, 0)) (by (with_reducible repeat (first | refine blk_drewN ?_ _ | refine blk_drew ?_ | refine blk_alloc ?_ _)); exact BK145.out) hg (fun e_ => NB145_154.out (Option.some.inj e_))); have n2_ := Aside0.mk (hbx); have n3_ := Aside0.mk (hbe _ _ (by repeat (first | (with_reducible first | exact HB.out | apply below_alloc | apply pw_below_drewN | apply below_drew1 | refine below_set ?_ GE145.out | refine below_set ?_ GE154.out) | exact HB.out)) GE154.out); clear HO_4; clear BK145; clear BK154; clear HB; have HO_4 := n0_; have BK145 := n1_; have BK154 := n2_; have HB := n3_; clear n0_ n1_ n2_ n3_; (try clear hbx hg hbe)))
                          go_roundg k2
                          case measure => have := HJ2.out; have := HK2.out; omega
                          case rel => exact ⟨(wrap64 (x6_2 + 1)), (x146000_2), (x146002_2), (y156), (by first | rfl | (simp; done) | (simp [*]; done)), H', ⟨by have := HJ2.out; have := HK2.out; omega⟩, ⟨by (with_reducible repeat (first | apply Kd.R_alloc | apply Kd.R_drewN | apply Kd.R_drew)); exact HO_4.out⟩, ⟨by (with_reducible repeat (first | refine blk_drewN ?_ _ | refine blk_drew ?_ | refine blk_alloc ?_ _)); exact BK145.out⟩, ⟨by (with_reducible repeat (first | refine blk_drewN ?_ _ | refine blk_drew ?_ | refine blk_alloc ?_ _)); exact BK154.out⟩, ⟨by repeat (first | (with_reducible first | exact HB.out | apply below_alloc | apply pw_below_drewN | apply below_drew1 | refine below_set ?_ GE145.out | refine below_set ?_ GE154.out) | exact HB.out)⟩⟩
                    · rw [if_neg c27] at H
                      exact absurd H (by simp)
                  · rw [if_neg c26] at H
                    exact absurd H (by simp)
                · rw [if_neg c25] at H
                  exact absurd H (by simp)
              · rw [if_neg c24] at H
                have c24b0 : decide (x6_2 < 16) = false := decide_eq_false c24
                clear c24
                have H' := Aside0.mk H
                clear H
                go_wp2
                go_loopg [8] k2 (fun kq v8 w' => ∃ (x8_3 : Int) (x146000_3 : Bool) (x146002_3 : Vector Int 16) (x155001_3 : List (S62)) (u155001 : Value), v8 = .int .i64 x8_3 ∧ Aside0 (spec_l01ReadHalf.l1 kq t146 x8_3 ((rdOf ByteArray.empty t146 0).toList == ([115, 116, 111, 99, 107] : List UInt8)) x155001_3 x155002_2 = some (r1, r2, r3, r4)) ∧ Aside0 (kq ≤ k2) ∧ Aside0 (Kd.R Kd.string 9 w' w.heap.size (fun _ => True) (.slice (some ad153) t146.length co21) t146) ∧ Aside0 (Kd.R k62 62 w' w.heap.size (fun _ => True) u155001 x155001_3) ∧ Aside0 (w'.heap[gb145]? = some (.cells (⟨(.bool x146000_3) :: ((.slice none 0 0)) :: Arr.arL .i8 x146002_3⟩ : Array Value) 45 (0, 0))) ∧ Aside0 (w'.heap[gb154]? = some (.cells (⟨(.bool ((rdOf ByteArray.empty t146 0).toList == ([115, 116, 111, 99, 107] : List UInt8))) :: (u155001) :: Arr.arL .i8 x155002_2⟩ : Array Value) 45 (0, 0))) ∧ Aside0 (Below w.heap.size w w'))
                case atStart => exact ⟨(2), (x146000_2), (x146002_2), (([] : List (S62))), (.slice none 0 0), (by first | rfl | (simp; done) | (simp [*]; done)), H', ⟨Nat.le_refl _⟩, ⟨by (with_reducible repeat (first | apply Kd.R_alloc | apply Kd.R_drewN | apply Kd.R_drew)); exact HO_4.out⟩, ⟨by first | exact Kd.R_nil _ _ _ _ _ | exact Kd.N_nil _ _ _ _ _ | exact Kd.V_nil _ _ _ _ _ | exact Kd.Q_nil _ _ _ _ _ | exact Kd.S_nil _ _ _ _ _⟩, ⟨by (with_reducible repeat (first | refine blk_drewN ?_ _ | refine blk_drew ?_ | refine blk_alloc ?_ _)); exact BK145.out⟩, ⟨by (with_reducible repeat (first | refine blk_drewN ?_ _ | refine blk_drew ?_ | refine blk_alloc ?_ _)); exact BK154.out⟩, ⟨by repeat (first | (with_reducible first | exact HB.out | apply below_alloc | apply pw_below_drewN | apply below_drew1 | refine below_set ?_ GE145.out | refine below_set ?_ GE154.out) | exact HB.out)⟩⟩
                case round =>
                  clear H'
                  try clear c1
                  try clear p1
                  try clear q1
                  try clear hx1
                  try clear qi1
                  try clear c2
                  try clear p2
                  try clear q2
                  try clear hx2
                  try clear c3
                  try clear p3
                  try clear q3
                  try clear hx3
                  try clear hf3
                  try clear c6
                  try clear c6b0
                  try clear c6b1
                  try clear p6
                  try clear c7
                  try clear c8
                  try clear c8b0
                  try clear c8b1
                  try clear c9
                  try clear c9b0
                  try clear c9b1
                  try clear c10
                  try clear c10b0
                  try clear c10b1
                  try clear c12
                  try clear c12b0
                  try clear c12b1
                  try clear c13
                  try clear c13b0
                  try clear c13b1
                  try clear p14
                  try clear q14
                  try clear hx14
                  try clear qi14
                  try clear p15
                  try clear q15
                  try clear hx15
                  try clear qi15
                  try clear c16
                  try clear c19
                  try clear c19b0
                  try clear c19b1
                  try clear c24
                  try clear c24b0
                  try clear c25
                  try clear c25b0
                  try clear c25b1
                  try clear c26
                  try clear c26b0
                  try clear c27
                  try clear c27b0
                  try clear p28
                  try clear q28
                  try clear hx28
                  try clear c29
                  try clear c29b0
                  try clear c33
                  try clear c33b0
                  try clear p37
                  try clear q37
                  try clear hx38
                  try clear hf38
                  try clear hx149_0
                  try clear hx150_0
                  try clear hx151_0
                  try clear hx152_0
                  try clear hx153_0
                  try clear hx155_0
                  try clear p1
                  try clear p14
                  try clear p149
                  try clear p15
                  try clear p150
                  try clear p151
                  try clear p152
                  try clear p153
                  try clear p155
                  try clear p2
                  try clear p28
                  try clear p37
                  try clear q1
                  try clear q14
                  try clear q149
                  try clear q15
                  try clear q150
                  try clear q151
                  try clear q152
                  try clear q153
                  try clear q155
                  try clear q28
                  try clear q37
                  obtain ⟨x8_3, x146000_3, x146002_3, x155001_3, u155001, rfl, HA, HK3, HO_4, HO_155001, BK145, BK154, HB⟩ := hrel
                  cases gk with
                  | zero => exact absurd HA.out (by simp [spec_l01ReadHalf.l1])
                  | succ k3 =>
                    have H := HA.out
                    clear HA
                    simp only [spec_l01ReadHalf.l1] at H
                    by_cases c40 : x8_3 < (t146.length : Int)
                    · rw [if_pos c40] at H
                      have c40b0 : decide (x8_3 < (t146.length : Int)) = true := decide_eq_true c40
                      clear c40
                      by_cases c41 : 0 ≤ x8_3
                      · rw [if_pos c41] at H
                        have c41b0 : decide (0 ≤ x8_3) = true := decide_eq_true c41
                        clear c41
                        replace H := Option.bind_eq_some_iff.mp H
                        obtain ⟨⟨t158, t159, t160⟩, A420, H⟩ := H
                        replace H : (if t160 = true then (if x155001_3.length < 35184372088832 then (spec_l01ReadHalf.l1 k3 t146 (wrap64 (x8_3 + 1)) ((rdOf ByteArray.empty t146 0).toList == ([115, 116, 111, 99, 107] : List UInt8)) (x155001_3 ++ [(⟨t158, t159⟩ : S62)]) x155002_2) else (none)) else (some (((rdOf ByteArray.empty t146 0).toList == ([115, 116, 111, 99, 107] : List UInt8)), x155001_3, x155002_2, false))) = some (r1, r2, r3, r4) := H
                        have A42 := Aside0.mk A420
                        clear A420
                        by_cases c43 : t160 = true
                        · subst c43
                          have H1 : (if x155001_3.length < 35184372088832 then (spec_l01ReadHalf.l1 k3 t146 (wrap64 (x8_3 + 1)) ((rdOf ByteArray.empty t146 0).toList == ([115, 116, 111, 99, 107] : List UInt8)) (x155001_3 ++ [(⟨t158, t159⟩ : S62)]) x155002_2) else (none)) = some (r1, r2, r3, r4) := by rw [if_pos rfl] at H; exact H
                          clear H
                          have H := H1
                          clear H1
                          by_cases c44 : x155001_3.length < 35184372088832
                          · rw [if_pos c44] at H
                            have LMc44 := Aside0.mk c44
                            clear c44
                            obtain ⟨y162, hy162⟩ : ∃ y_ : List (S62), y_ = (x155001_3 ++ [(⟨t158, t159⟩ : S62)]) := ⟨_, rfl⟩
                            replace H : (spec_l01ReadHalf.l1 k3 t146 (wrap64 (x8_3 + 1)) ((rdOf ByteArray.empty t146 0).toList == ([115, 116, 111, 99, 107] : List UInt8)) y162 x155002_2) = some (r1, r2, r3, r4) := by first | (rw [hy162]; with_reducible exact H) | (have H2_ := (Option.bind_some _ _).symm.trans H; rw [hy162]; with_reducible exact H2_) | (have H2_ := (Option.bind_some _ _).symm.trans H; with_reducible exact H2_) | with_reducible exact H | (rw [hy162]; exact H) | exact H
                            have Ny162 := Aside0.mk hy162
                            clear hy162
                            have H' := Aside0.mk H
                            clear H
                            have p157 : 0 ≤ (x8_3 : Int) := of_decide_eq_true (by first | (with_reducible assumption) | assumption)
                            have q157 : x8_3 < (t146.length : Int) := of_decide_eq_true (by first | (with_reducible assumption) | assumption)
                            obtain ⟨ad157, e157, hx157_0⟩ := Kd.at_string (Kd.R_reads' HO_4.out).2.2 x8_3 p157 q157
                            obtain rfl : ad153 = ad157 := (by injection e157)
                            replace p157 := eq_true p157
                            replace q157 := eq_true q157
                            go_wp2_with (first | ((with_reducible refine gate_callee (f := 114) rfl ?_); refine goesL_ (some 74) rfl rfl Tryd.func114 (by kernel_rfl) rfl #[.string (rdOf ByteArray.empty t146 x8_3)] rfl (by (try simp only [List.map_toArray, List.map_cons, List.map_nil]); first | done | (go_simp; done) | rfl | (simp only [List.length_drop, List.length_take]; rfl)) ?_; (with_reducible refine (spec_l01ReadNotch.calls k3 (rdOf ByteArray.empty t146 x8_3) t158 t159 true _ A42.out).mono ?_); rintro e w45 ⟨rfl, hb⟩; refine ⟨_, rfl, ?_⟩; have n0_ := Aside0.mk (Kd.R_below (by (with_reducible repeat (first | apply Kd.R_alloc | apply Kd.R_drewN | apply Kd.R_drew)); exact HO_4.out) hb); have n1_ := Aside0.mk (Kd.R_below (by (with_reducible repeat (first | apply Kd.R_alloc | apply Kd.R_drewN | apply Kd.R_drew)); exact HO_155001.out) hb); have n2_ := Aside0.mk (blk_below (g := gb145) (o := .cells (⟨(.bool x146000_3) :: (.slice none 0 0) :: Arr.arL .i8 x146002_3⟩ : Array Value) 45 (0, 0)) (by (with_reducible repeat (first | refine blk_drewN ?_ _ | refine blk_drew ?_ | refine blk_alloc ?_ _)); exact BK145.out) hb); have n3_ := Aside0.mk (blk_below (g := gb154) (o := .cells (⟨(.bool ((rdOf ByteArray.empty t146 0).toList == ([115, 116, 111, 99, 107] : List UInt8))) :: (u155001) :: Arr.arL .i8 x155002_2⟩ : Array Value) 45 (0, 0)) (by (with_reducible repeat (first | refine blk_drewN ?_ _ | refine blk_drew ?_ | refine blk_alloc ?_ _)); exact BK154.out) hb); have n4_ := Aside0.mk (below_step (by repeat (first | (with_reducible first | exact HB.out | apply below_alloc | apply pw_below_drewN | apply below_drew1 | refine below_set ?_ GE145.out | refine below_set ?_ GE154.out) | exact HB.out)) hb); clear HO_4; clear HO_155001; clear BK145; clear BK154; clear HB; have HO_4 := n0_; have HO_155001 := n1_; have BK145 := n2_; have BK154 := n3_; have HB := n4_; clear n0_ n1_ n2_ n3_ n4_; (try clear hb); (try clear hb2); (try clear hk); (try clear hi)) | ((with_reducible refine gate_dst (N := 9) rfl ?_); (try (refine gate_guard (by rfl) ?_; dsimp only)); refine box_event ?hg (N := 9) ?hd (cs := #[.int .i8 0, .int .i16 0]) (t := 62) ?hr ?_; (case hd => rfl); (case hg => rfl); (case hr => first | (go_simp; done) | (go_simp; rfl)); intro gb161 hg w46 hbox hb; have n0_ := Aside0.mk (Kd.R_below (by (with_reducible repeat (first | apply Kd.R_alloc | apply Kd.R_drewN | apply Kd.R_drew)); exact HO_4.out) hb); have n1_ := Aside0.mk (Kd.R_below (Kd.R_elderB (by (with_reducible repeat (first | apply Kd.R_alloc | apply Kd.R_drewN | apply Kd.R_drew)); exact HO_155001.out) gb161 (Nat.le_of_eq hg.symm)) hb); have n2_ := Aside0.mk (blk_below (g := gb145) (o := .cells (⟨(.bool x146000_3) :: (.slice none 0 0) :: Arr.arL .i8 x146002_3⟩ : Array Value) 45 (0, 0)) (by (with_reducible repeat (first | refine blk_drewN ?_ _ | refine blk_drew ?_ | refine blk_alloc ?_ _)); exact BK145.out) hb); have n3_ := Aside0.mk (blk_below (g := gb154) (o := .cells (⟨(.bool ((rdOf ByteArray.empty t146 0).toList == ([115, 116, 111, 99, 107] : List UInt8))) :: (u155001) :: Arr.arL .i8 x155002_2⟩ : Array Value) 45 (0, 0)) (by (with_reducible repeat (first | refine blk_drewN ?_ _ | refine blk_drew ?_ | refine blk_alloc ?_ _)); exact BK154.out) hb); have n4_ := Aside0.mk (below_step (by repeat (first | (with_reducible first | exact HB.out | apply below_alloc | apply pw_below_drewN | apply below_drew1 | refine below_set ?_ GE145.out | refine below_set ?_ GE154.out) | exact HB.out)) hb); have n5_ := Aside0.mk (hbox); have n6_ := Aside0.mk ((by rw [hg]; exact (below_size (by repeat (first | (with_reducible first | exact HB.out | apply below_alloc | apply pw_below_drewN | apply below_drew1 | refine below_set ?_ GE145.out | refine below_set ?_ GE154.out) | exact HB.out))) : w.heap.size ≤ gb161)); have n7_ := Aside0.mk ((by rw [hg]; exact (below_size (by repeat (first | (with_reducible first | exact HB.out | apply below_alloc | apply pw_below_drewN | apply below_drew1 | refine below_set ?_ GE145.out | refine below_set ?_ GE154.out) | exact HB.out))) : w.heap.size ≤ gb161)); have n8_ := Aside0.mk ((by rw [hg]; exact Nat.ne_of_lt (blk_lt (g := gb145) (o := .cells (⟨(.bool x146000_3) :: (.slice none 0 0) :: Arr.arL .i8 x146002_3⟩ : Array Value) 45 (0, 0)) (by (with_reducible repeat (first | refine blk_drewN ?_ _ | refine blk_drew ?_ | refine blk_alloc ?_ _)); exact BK145.out)) : gb145 ≠ gb161)); have n9_ := Aside0.mk ((by rw [hg]; exact Nat.ne_of_gt (blk_lt (g := gb145) (o := .cells (⟨(.bool x146000_3) :: (.slice none 0 0) :: Arr.arL .i8 x146002_3⟩ : Array Value) 45 (0, 0)) (by (with_reducible repeat (first | refine blk_drewN ?_ _ | refine blk_drew ?_ | refine blk_alloc ?_ _)); exact BK145.out)) : gb161 ≠ gb145)); have n10_ := Aside0.mk ((by rw [hg]; exact Nat.ne_of_lt (blk_lt (g := gb154) (o := .cells (⟨(.bool ((rdOf ByteArray.empty t146 0).toList == ([115, 116, 111, 99, 107] : List UInt8))) :: (u155001) :: Arr.arL .i8 x155002_2⟩ : Array Value) 45 (0, 0)) (by (with_reducible repeat (first | refine blk_drewN ?_ _ | refine blk_drew ?_ | refine blk_alloc ?_ _)); exact BK154.out)) : gb154 ≠ gb161)); have n11_ := Aside0.mk ((by rw [hg]; exact Nat.ne_of_gt (blk_lt (g := gb154) (o := .cells (⟨(.bool ((rdOf ByteArray.empty t146 0).toList == ([115, 116, 111, 99, 107] : List UInt8))) :: (u155001) :: Arr.arL .i8 x155002_2⟩ : Array Value) 45 (0, 0)) (by (with_reducible repeat (first | refine blk_drewN ?_ _ | refine blk_drew ?_ | refine blk_alloc ?_ _)); exact BK154.out)) : gb161 ≠ gb154)); clear HO_4; clear HO_155001; clear BK145; clear BK154; clear HB; have HO_4 := n0_; have HO_155001 := n1_; have BK145 := n2_; have BK154 := n3_; have HB := n4_; have BK161 := n5_; have GW161 := n6_; have GE161 := n7_; have NB145_161 := n8_; have NB161_145 := n9_; have NB154_161 := n10_; have NB161_154 := n11_; clear n0_ n1_ n2_ n3_ n4_ n5_ n6_ n7_ n8_ n9_ n10_ n11_; clear hb hbox hg; have hnb47 := NB161_145.out; have hnc47 := NB145_161.out; have hnb48 := NB161_154.out; have hnc48 := NB154_161.out; have hcz49_0 : w46.cell? ⟨gb161, 0, none⟩ = some (.int .i8 0) := (blk_cell BK161.out 0).trans rfl; have hcz49_1 : w46.cell? ⟨gb161, 1, none⟩ = some (.int .i16 0) := (blk_cell BK161.out 1).trans rfl; have hfz49_0 := blk_frozen BK161.out 0; have hfz49_1 := blk_frozen BK161.out 1; have hnb50 := NB154_145.out; have hnc50 := NB145_154.out; have hcz51_0 : w46.cell? ⟨gb154, 0, none⟩ = some (.bool ((rdOf ByteArray.empty t146 0).toList == ([115, 116, 111, 99, 107] : List UInt8))) := (blk_cell BK154.out 0).trans rfl; have hcz51_1 : w46.cell? ⟨gb154, 1, none⟩ = some (u155001) := (blk_cell BK154.out 1).trans rfl; have hfz51_0 := blk_frozen BK154.out 0; have hfz51_1 := blk_frozen BK154.out 1) | ((with_reducible refine gate_builtin (b := .append) (xs := #[.tmp 81, .tmp 83]) rfl ?_); (try (refine gate_guard (by rfl) ?_; dsimp only)); at_builtin; refine Kd.R_append k62 (w0 := w) w.heap.size rfl (.tmp 81) (.tmp 83) 42 62 (.agg #[(.int .i8 0), (.int .i16 0)]) 4 rfl Tryd.underlying42 info62 rfl (by decide) (by omega) u155001 x155001_3 (⟨t158, t159⟩ : S62) [.int .i8 t158, .int .i16 t159] (fun k_ => k_ ≠ gb161) (fun _ => False) rfl (by first | (go_simp; done) | (go_simp; rfl)) ?aP (fun _ hk => hk.elim) ?aF ?aO ?aB ?aS ?aL ?_; (case aP => exact k62_mkM _ _ _ (⟨t158, t159⟩ : S62)); (case aB => exact (by repeat (first | (with_reducible first | exact HB.out | apply below_alloc | apply pw_below_drewN | apply below_drew1 | refine below_set ?_ GE145.out | refine below_set ?_ GE154.out | refine below_set ?_ GE161.out) | exact HB.out))); (case aF => exact (fun k_ hk => Kd.freshB (g := gb161) (o := .cells #[.int .i8 t158, .int .i16 t159] 62 (0, 0)) (by (with_reducible repeat (first | refine blk_drewN ?_ _ | refine blk_drew ?_ | refine blk_alloc ?_ _)); refine blk_put (cs := #[.int .i8 t158, .int .i16 0]) ?_ 1 _ rfl; (with_reducible repeat (first | refine blk_drewN ?_ _ | refine blk_drew ?_ | refine blk_alloc ?_ _)); refine blk_put (cs := #[.int .i8 0, .int .i16 0]) ?_ 0 _ rfl; (with_reducible repeat (first | refine blk_drewN ?_ _ | refine blk_drew ?_ | refine blk_alloc ?_ _)); exact BK161.out) k_ hk)); (case aO => exact (by (with_reducible repeat (first | apply Kd.R_alloc | apply Kd.R_drewN | apply Kd.R_drew)); exact Kd.R_mono (Kd.R_far (p := ⟨gb161, 1, none⟩) (Kd.R_far (p := ⟨gb161, 0, none⟩) (Kd.R_mono HO_155001.out (fun k_ hk => (⟨hk, hk.2⟩ : _ ∧ k_ ≠ gb161))) (fun _ hk => hk.2) (.int .i8 t158)) (fun _ hk => hk.2) (.int .i16 t159)) (fun _ hk => hk.1.2))); (case aS => exact (below_size (by repeat (first | (with_reducible first | exact HB.out | apply below_alloc | apply pw_below_drewN | apply below_drew1 | refine below_set ?_ GE145.out | refine below_set ?_ GE154.out | refine below_set ?_ GE161.out) | exact HB.out)))); (case aL => have := LMc44.out; omega); intro v163 w52 ho hb hg hat; rw [← Ny162.out] at ho; have n0_ := Aside0.mk (Kd.R_over' (by (with_reducible repeat (first | apply Kd.R_alloc | apply Kd.R_drewN | apply Kd.R_drew)); exact (Kd.R_mono (Kd.R_far (p := ⟨gb161, 1, none⟩) (Kd.R_far (p := ⟨gb161, 0, none⟩) (Kd.R_types HO_4.out BK161.out (by decide)) (fun _ hk => hk.2) (.int .i8 t158)) (fun _ hk => hk.2) (.int .i16 t159)) (fun _ h_ => h_.1))) (Kd.R_typed (by (with_reducible repeat (first | apply Kd.R_alloc | apply Kd.R_drewN | apply Kd.R_drew)); exact (Kd.R_mono (Kd.R_far (p := ⟨gb161, 1, none⟩) (Kd.R_far (p := ⟨gb161, 0, none⟩) (Kd.R_mono HO_155001.out (fun k_ hk => (⟨hk, hk.2⟩ : _ ∧ k_ ≠ gb161))) (fun _ hk => hk.2) (.int .i8 t158)) (fun _ hk => hk.2) (.int .i16 t159)) (fun _ h_ => h_.1)))) (by decide) hg); have n1_ := Aside0.mk (blk_grown (g := gb145) (o := .cells (⟨(.bool x146000_3) :: (.slice none 0 0) :: Arr.arL .i8 x146002_3⟩ : Array Value) 45 (0, 0)) (by (with_reducible repeat (first | refine blk_drewN ?_ _ | refine blk_drew ?_ | refine blk_alloc ?_ _)); refine blk_far ?_ NB145_161.out _; (with_reducible repeat (first | refine blk_drewN ?_ _ | refine blk_drew ?_ | refine blk_alloc ?_ _)); refine blk_far ?_ NB145_161.out _; (with_reducible repeat (first | refine blk_drewN ?_ _ | refine blk_drew ?_ | refine blk_alloc ?_ _)); exact BK145.out) hg (Kd.R_ne HO_155001.out BK145.out (by decide))); have n2_ := Aside0.mk (blk_grown (g := gb154) (o := .cells (⟨(.bool ((rdOf ByteArray.empty t146 0).toList == ([115, 116, 111, 99, 107] : List UInt8))) :: (u155001) :: Arr.arL .i8 x155002_2⟩ : Array Value) 45 (0, 0)) (by (with_reducible repeat (first | refine blk_drewN ?_ _ | refine blk_drew ?_ | refine blk_alloc ?_ _)); refine blk_far ?_ NB154_161.out _; (with_reducible repeat (first | refine blk_drewN ?_ _ | refine blk_drew ?_ | refine blk_alloc ?_ _)); refine blk_far ?_ NB154_161.out _; (with_reducible repeat (first | refine blk_drewN ?_ _ | refine blk_drew ?_ | refine blk_alloc ?_ _)); exact BK154.out) hg (Kd.R_ne HO_155001.out BK154.out (by decide))); have n3_ := Aside0.mk (blk_grown (g := gb161) (o := .cells #[.int .i8 t158, .int .i16 t159] 62 (0, 0)) (by (with_reducible repeat (first | refine blk_drewN ?_ _ | refine blk_drew ?_ | refine blk_alloc ?_ _)); refine blk_put (cs := #[.int .i8 t158, .int .i16 0]) ?_ 1 _ rfl; (with_reducible repeat (first | refine blk_drewN ?_ _ | refine blk_drew ?_ | refine blk_alloc ?_ _)); refine blk_put (cs := #[.int .i8 0, .int .i16 0]) ?_ 0 _ rfl; (with_reducible repeat (first | refine blk_drewN ?_ _ | refine blk_drew ?_ | refine blk_alloc ?_ _)); exact BK161.out) hg (Kd.R_away HO_155001.out (fun _ hk => hk.2))); have n4_ := Aside0.mk (hb); have n5_ := Aside0.mk (ho); clear HO_4; clear BK145; clear BK154; clear BK161; clear HB; clear HO_155001; have HO_4 := n0_; have BK145 := n1_; have BK154 := n2_; have BK161 := n3_; have HB := n4_; have HO164 := n5_; clear n0_ n1_ n2_ n3_ n4_ n5_; clear ho hb hg hat; obtain ⟨Ao53, co53, eo53⟩ := Kd.R_slice HO164.out; subst eo53; have hcz54_0 : w52.cell? ⟨gb154, 0, none⟩ = some (.bool ((rdOf ByteArray.empty t146 0).toList == ([115, 116, 111, 99, 107] : List UInt8))) := (blk_cell BK154.out 0).trans rfl; have hcz54_1 : w52.cell? ⟨gb154, 1, none⟩ = some (u155001) := (blk_cell BK154.out 1).trans rfl; have hfz54_0 := blk_frozen BK154.out 0; have hfz54_1 := blk_frozen BK154.out 1))
                            go_roundg k3
                            case measure => have := HJ2.out; have := HK2.out; have := HK3.out; omega
                            case rel => exact ⟨(wrap64 (x8_3 + 1)), (x146000_3), (x146002_3), (y162), (.slice Ao53 y162.length co53), (by first | rfl | (simp; done) | (simp [*]; done)), H', ⟨by have := HJ2.out; have := HK2.out; have := HK3.out; omega⟩, ⟨by (with_reducible repeat (first | apply Kd.R_alloc | apply Kd.R_drewN | apply Kd.R_drew)); exact Kd.R_mono (Kd.R_far (p := ⟨gb154, 1, none⟩) (Kd.R_types HO_4.out BK154.out (by decide)) (fun _ hk => hk.2) (.slice Ao53 y162.length co53)) (fun _ hk => trivial)⟩, ⟨by (with_reducible repeat (first | apply Kd.R_alloc | apply Kd.R_drewN | apply Kd.R_drew)); exact Kd.R_mono (Kd.R_far (p := ⟨gb154, 1, none⟩) (Kd.R_types HO164.out BK154.out (by decide)) (fun _ hk => hk.2) (.slice Ao53 y162.length co53)) (fun _ hk => trivial)⟩, ⟨by (with_reducible repeat (first | refine blk_drewN ?_ _ | refine blk_drew ?_ | refine blk_alloc ?_ _)); refine blk_far ?_ NB145_154.out _; (with_reducible repeat (first | refine blk_drewN ?_ _ | refine blk_drew ?_ | refine blk_alloc ?_ _)); exact BK145.out⟩, ⟨by (with_reducible repeat (first | refine blk_drewN ?_ _ | refine blk_drew ?_ | refine blk_alloc ?_ _)); refine blk_put (cs := (⟨(.bool ((rdOf ByteArray.empty t146 0).toList == ([115, 116, 111, 99, 107] : List UInt8))) :: (u155001) :: Arr.arL .i8 x155002_2⟩ : Array Value)) ?_ 1 _ rfl; (with_reducible repeat (first | refine blk_drewN ?_ _ | refine blk_drew ?_ | refine blk_alloc ?_ _)); exact BK154.out⟩, ⟨by repeat (first | (with_reducible first | exact HB.out | apply below_alloc | apply pw_below_drewN | apply below_drew1 | refine below_set ?_ GE145.out | refine below_set ?_ GE154.out | refine below_set ?_ GE161.out) | exact HB.out)⟩⟩
                          · rw [if_neg c44] at H
                            exact absurd H (by simp)
                        · replace c43 := Bool.eq_false_iff.mpr c43
                          subst c43
                          have H1 : (some (((rdOf ByteArray.empty t146 0).toList == ([115, 116, 111, 99, 107] : List UInt8)), x155001_3, x155002_2, false)) = some (r1, r2, r3, r4) := by rw [if_neg (show ¬ (false = true) by decide)] at H; exact H
                          clear H
                          have H := H1
                          clear H1
                          simp only [Option.some.injEq, Prod.mk.injEq] at H
                          obtain ⟨rfl, rfl, rfl, rfl⟩ := H
                          have p157 : 0 ≤ (x8_3 : Int) := of_decide_eq_true (by first | (with_reducible assumption) | assumption)
                          have q157 : x8_3 < (t146.length : Int) := of_decide_eq_true (by first | (with_reducible assumption) | assumption)
                          obtain ⟨ad157, e157, hx157_0⟩ := Kd.at_string (Kd.R_reads' HO_4.out).2.2 x8_3 p157 q157
                          obtain rfl : ad153 = ad157 := (by injection e157)
                          replace p157 := eq_true p157
                          replace q157 := eq_true q157
                          go_wp2_with (first | ((with_reducible refine gate_callee (f := 114) rfl ?_); refine goesL_ (some 74) rfl rfl Tryd.func114 (by kernel_rfl) rfl #[.string (rdOf ByteArray.empty t146 x8_3)] rfl (by (try simp only [List.map_toArray, List.map_cons, List.map_nil]); first | done | (go_simp; done) | rfl | (simp only [List.length_drop, List.length_take]; rfl)) ?_; (with_reducible refine (spec_l01ReadNotch.calls k3 (rdOf ByteArray.empty t146 x8_3) t158 t159 false _ A42.out).mono ?_); rintro e w57 ⟨rfl, hb⟩; refine ⟨_, rfl, ?_⟩; have n0_ := Aside0.mk (Kd.R_below (by (with_reducible repeat (first | apply Kd.R_alloc | apply Kd.R_drewN | apply Kd.R_drew)); exact HO_4.out) hb); have n1_ := Aside0.mk (Kd.R_below (by (with_reducible repeat (first | apply Kd.R_alloc | apply Kd.R_drewN | apply Kd.R_drew)); exact HO_155001.out) hb); have n2_ := Aside0.mk (blk_below (g := gb145) (o := .cells (⟨(.bool x146000_3) :: (.slice none 0 0) :: Arr.arL .i8 x146002_3⟩ : Array Value) 45 (0, 0)) (by (with_reducible repeat (first | refine blk_drewN ?_ _ | refine blk_drew ?_ | refine blk_alloc ?_ _)); exact BK145.out) hb); have n3_ := Aside0.mk (blk_below (g := gb154) (o := .cells (⟨(.bool ((rdOf ByteArray.empty t146 0).toList == ([115, 116, 111, 99, 107] : List UInt8))) :: (u155001) :: Arr.arL .i8 x155002_2⟩ : Array Value) 45 (0, 0)) (by (with_reducible repeat (first | refine blk_drewN ?_ _ | refine blk_drew ?_ | refine blk_alloc ?_ _)); exact BK154.out) hb); have n4_ := Aside0.mk (below_step (by repeat (first | (with_reducible first | exact HB.out | apply below_alloc | apply pw_below_drewN | apply below_drew1 | refine below_set ?_ GE145.out | refine below_set ?_ GE154.out) | exact HB.out)) hb); clear HO_4; clear HO_155001; clear BK145; clear BK154; clear HB; have HO_4 := n0_; have HO_155001 := n1_; have BK145 := n2_; have BK154 := n3_; have HB := n4_; clear n0_ n1_ n2_ n3_ n4_; (try clear hb); (try clear hb2); (try clear hk); (try clear hi)) | ((with_reducible refine gate_dst (N := 9) rfl ?_); (try (refine gate_guard (by rfl) ?_; dsimp only)); refine box_event ?hg (N := 9) ?hd (cs := #[.int .i8 0, .int .i16 0]) (t := 62) ?hr ?_; (case hd => rfl); (case hg => rfl); (case hr => first | (go_simp; done) | (go_simp; rfl)); intro gb161 hg w58 hbox hb; have n0_ := Aside0.mk (Kd.R_below (by (with_reducible repeat (first | apply Kd.R_alloc | apply Kd.R_drewN | apply Kd.R_drew)); exact HO_4.out) hb); have n1_ := Aside0.mk (Kd.R_below (Kd.R_elderB (by (with_reducible repeat (first | apply Kd.R_alloc | apply Kd.R_drewN | apply Kd.R_drew)); exact HO_155001.out) gb161 (Nat.le_of_eq hg.symm)) hb); have n2_ := Aside0.mk (blk_below (g := gb145) (o := .cells (⟨(.bool x146000_3) :: (.slice none 0 0) :: Arr.arL .i8 x146002_3⟩ : Array Value) 45 (0, 0)) (by (with_reducible repeat (first | refine blk_drewN ?_ _ | refine blk_drew ?_ | refine blk_alloc ?_ _)); exact BK145.out) hb); have n3_ := Aside0.mk (blk_below (g := gb154) (o := .cells (⟨(.bool ((rdOf ByteArray.empty t146 0).toList == ([115, 116, 111, 99, 107] : List UInt8))) :: (u155001) :: Arr.arL .i8 x155002_2⟩ : Array Value) 45 (0, 0)) (by (with_reducible repeat (first | refine blk_drewN ?_ _ | refine blk_drew ?_ | refine blk_alloc ?_ _)); exact BK154.out) hb); have n4_ := Aside0.mk (below_step (by repeat (first | (with_reducible first | exact HB.out | apply below_alloc | apply pw_below_drewN | apply below_drew1 | refine below_set ?_ GE145.out | refine below_set ?_ GE154.out) | exact HB.out)) hb); have n5_ := Aside0.mk (hbox); have n6_ := Aside0.mk ((by rw [hg]; exact (below_size (by repeat (first | (with_reducible first | exact HB.out | apply below_alloc | apply pw_below_drewN | apply below_drew1 | refine below_set ?_ GE145.out | refine below_set ?_ GE154.out) | exact HB.out))) : w.heap.size ≤ gb161)); have n7_ := Aside0.mk ((by rw [hg]; exact (below_size (by repeat (first | (with_reducible first | exact HB.out | apply below_alloc | apply pw_below_drewN | apply below_drew1 | refine below_set ?_ GE145.out | refine below_set ?_ GE154.out) | exact HB.out))) : w.heap.size ≤ gb161)); have n8_ := Aside0.mk ((by rw [hg]; exact Nat.ne_of_lt (blk_lt (g := gb145) (o := .cells (⟨(.bool x146000_3) :: (.slice none 0 0) :: Arr.arL .i8 x146002_3⟩ : Array Value) 45 (0, 0)) (by (with_reducible repeat (first | refine blk_drewN ?_ _ | refine blk_drew ?_ | refine blk_alloc ?_ _)); exact BK145.out)) : gb145 ≠ gb161)); have n9_ := Aside0.mk ((by rw [hg]; exact Nat.ne_of_gt (blk_lt (g := gb145) (o := .cells (⟨(.bool x146000_3) :: (.slice none 0 0) :: Arr.arL .i8 x146002_3⟩ : Array Value) 45 (0, 0)) (by (with_reducible repeat (first | refine blk_drewN ?_ _ | refine blk_drew ?_ | refine blk_alloc ?_ _)); exact BK145.out)) : gb161 ≠ gb145)); have n10_ := Aside0.mk ((by rw [hg]; exact Nat.ne_of_lt (blk_lt (g := gb154) (o := .cells (⟨(.bool ((rdOf ByteArray.empty t146 0).toList == ([115, 116, 111, 99, 107] : List UInt8))) :: (u155001) :: Arr.arL .i8 x155002_2⟩ : Array Value) 45 (0, 0)) (by (with_reducible repeat (first | refine blk_drewN ?_ _ | refine blk_drew ?_ | refine blk_alloc ?_ _)); exact BK154.out)) : gb154 ≠ gb161)); have n11_ := Aside0.mk ((by rw [hg]; exact Nat.ne_of_gt (blk_lt (g := gb154) (o := .cells (⟨(.bool ((rdOf ByteArray.empty t146 0).toList == ([115, 116, 111, 99, 107] : List UInt8))) :: (u155001) :: Arr.arL .i8 x155002_2⟩ : Array Value) 45 (0, 0)) (by (with_reducible repeat (first | refine blk_drewN ?_ _ | refine blk_drew ?_ | refine blk_alloc ?_ _)); exact BK154.out)) : gb161 ≠ gb154)); clear HO_4; clear HO_155001; clear BK145; clear BK154; clear HB; have HO_4 := n0_; have HO_155001 := n1_; have BK145 := n2_; have BK154 := n3_; have HB := n4_; have BK161 := n5_; have GW161 := n6_; have GE161 := n7_; have NB145_161 := n8_; have NB161_145 := n9_; have NB154_161 := n10_; have NB161_154 := n11_; clear n0_ n1_ n2_ n3_ n4_ n5_ n6_ n7_ n8_ n9_ n10_ n11_; clear hb hbox hg; have hnb59 := NB161_145.out; have hnc59 := NB145_161.out; have hnb60 := NB161_154.out; have hnc60 := NB154_161.out; have hcz61_0 : w58.cell? ⟨gb161, 0, none⟩ = some (.int .i8 0) := (blk_cell BK161.out 0).trans rfl; have hcz61_1 : w58.cell? ⟨gb161, 1, none⟩ = some (.int .i16 0) := (blk_cell BK161.out 1).trans rfl; have hfz61_0 := blk_frozen BK161.out 0; have hfz61_1 := blk_frozen BK161.out 1) | ((with_reducible refine gate_store (t := 62) (p := 9) rfl ?_); refine store_event (t := 62) (p := 9) (v := ?vo_w62) (w1 := ((w58.setCell ⟨gb161, 0, none⟩ (.int .i8 t158)).setCell ⟨gb161, 1, none⟩ (.int .i16 t159))) ?hg ?ho ?hn ?hr ?_; (case ho => rfl); (case hg => rfl); (case hn => rfl); (case hr => first | (go_simp; done) | (go_simp; rfl)); intro w62 hw; have n0_ : Aside0 (Kd.R Kd.string 9 w62 w.heap.size (fun _ => True) (.slice (some ad153) t146.length co21) t146) := ⟨(by rw [hw]; exact (by (with_reducible repeat (first | apply Kd.R_alloc | apply Kd.R_drewN | apply Kd.R_drew)); exact Kd.R_mono (Kd.R_far (p := ⟨gb161, 1, none⟩) (Kd.R_far (p := ⟨gb161, 0, none⟩) (Kd.R_types HO_4.out BK161.out (by decide)) (fun _ hk => hk.2) (.int .i8 t158)) (fun _ hk => hk.2) (.int .i16 t159)) (fun _ hk => trivial)))⟩; have n1_ : Aside0 (Kd.R k62 62 w62 w.heap.size (fun k_ => k_ ≠ gb161) u155001 x155001_3) := ⟨(by rw [hw]; exact (by (with_reducible repeat (first | apply Kd.R_alloc | apply Kd.R_drewN | apply Kd.R_drew)); exact Kd.R_mono (Kd.R_far (p := ⟨gb161, 1, none⟩) (Kd.R_far (p := ⟨gb161, 0, none⟩) (Kd.R_mono HO_155001.out (fun k_ hk => (⟨hk, hk.2⟩ : _ ∧ k_ ≠ gb161))) (fun _ hk => hk.2) (.int .i8 t158)) (fun _ hk => hk.2) (.int .i16 t159)) (fun _ hk => hk.1.2)))⟩; have n2_ : Aside0 (w62.heap[gb145]? = some (.cells (⟨(.bool x146000_3) :: (.slice none 0 0) :: Arr.arL .i8 x146002_3⟩ : Array Value) 45 (0, 0))) := ⟨(by rw [hw]; exact (by (with_reducible repeat (first | refine blk_drewN ?_ _ | refine blk_drew ?_ | refine blk_alloc ?_ _)); refine blk_far ?_ NB145_161.out _; (with_reducible repeat (first | refine blk_drewN ?_ _ | refine blk_drew ?_ | refine blk_alloc ?_ _)); refine blk_far ?_ NB145_161.out _; (with_reducible repeat (first | refine blk_drewN ?_ _ | refine blk_drew ?_ | refine blk_alloc ?_ _)); exact BK145.out))⟩; have n3_ : Aside0 (w62.heap[gb154]? = some (.cells (⟨(.bool ((rdOf ByteArray.empty t146 0).toList == ([115, 116, 111, 99, 107] : List UInt8))) :: (u155001) :: Arr.arL .i8 x155002_2⟩ : Array Value) 45 (0, 0))) := ⟨(by rw [hw]; exact (by (with_reducible repeat (first | refine blk_drewN ?_ _ | refine blk_drew ?_ | refine blk_alloc ?_ _)); refine blk_far ?_ NB154_161.out _; (with_reducible repeat (first | refine blk_drewN ?_ _ | refine blk_drew ?_ | refine blk_alloc ?_ _)); refine blk_far ?_ NB154_161.out _; (with_reducible repeat (first | refine blk_drewN ?_ _ | refine blk_drew ?_ | refine blk_alloc ?_ _)); exact BK154.out))⟩; have n4_ : Aside0 (w62.heap[gb161]? = some (.cells #[.int .i8 t158, .int .i16 t159] 62 (0, 0))) := ⟨(by rw [hw]; exact (by (with_reducible repeat (first | refine blk_drewN ?_ _ | refine blk_drew ?_ | refine blk_alloc ?_ _)); refine blk_put (cs := #[.int .i8 t158, .int .i16 0]) ?_ 1 _ rfl; (with_reducible repeat (first | refine blk_drewN ?_ _ | refine blk_drew ?_ | refine blk_alloc ?_ _)); refine blk_put (cs := #[.int .i8 0, .int .i16 0]) ?_ 0 _ rfl; (with_reducible repeat (first | refine blk_drewN ?_ _ | refine blk_drew ?_ | refine blk_alloc ?_ _)); exact BK161.out))⟩; have n5_ : Aside0 (Below w.heap.size w w62) := ⟨(by rw [hw]; exact (by repeat (first | (with_reducible first | exact HB.out | apply below_alloc | apply pw_below_drewN | apply below_drew1 | refine below_set ?_ GE145.out | refine below_set ?_ GE154.out | refine below_set ?_ GE161.out) | exact HB.out)))⟩; clear hw; clear HO_4; clear HO_155001; clear BK145; clear BK154; clear BK161; clear HB; have HO_4 := n0_; have HO_155001 := n1_; have BK145 := n2_; have BK154 := n3_; have BK161 := n4_; have HB := n5_; clear n0_ n1_ n2_ n3_ n4_ n5_) | ((with_reducible refine Arr.gate_load (t := 45) (p := 5) rfl ?_); (try (refine gate_guard (by rfl) ?_; dsimp only)); refine Arr.loadA ?hg (T := 45) (p := 5) ?ho (g := gb154) (off := 0) ?hx (t := 45) (l := ((.bool ((rdOf ByteArray.empty t146 0).toList == ([115, 116, 111, 99, 107] : List UInt8))) :: (u155001) :: Arr.arL .i8 x155002_2)) (m := ((.bool ((rdOf ByteArray.empty t146 0).toList == ([115, 116, 111, 99, 107] : List UInt8))) :: (u155001) :: Arr.arL .i8 x155002_2)) (fr := (0, 0)) (show w62.heap[gb154]? = some (.cells (⟨(.bool ((rdOf ByteArray.empty t146 0).toList == ([115, 116, 111, 99, 107] : List UInt8))) :: (u155001) :: Arr.arL .i8 x155002_2⟩ : Array Value) 45 (0, 0)) from by (with_reducible repeat (first | refine blk_drewN ?_ _ | refine blk_drew ?_ | refine blk_alloc ?_ _)); exact BK154.out) rfl Tryd.underlying45 rfl (n := 18) (by kernel_rfl) (by simp [Arr.arL_length]) ?_; (case hg => rfl); (case ho => rfl); (case hx => first | (go_simp; done) | rfl | (go_simp; rfl)); obtain ⟨Ao64, co64, eo64⟩ := Kd.R_slice HO_155001.out; subst eo64) | ((with_reducible refine gate_store (t := 45) (p := 2) rfl ?_); refine Arr.storeA ?hg (T := 45) (p := 2) (v := ?vo_w63) ?ho ?hn (g := gb145) (off := 0) ?hx (m := ((.bool ((rdOf ByteArray.empty t146 0).toList == ([115, 116, 111, 99, 107] : List UInt8))) :: (.slice Ao64 x155001_3.length co64) :: Arr.arL .i8 x155002_2)) ?hy (t := 45) (pre := []) (old := ((.bool x146000_3) :: (.slice none 0 0) :: Arr.arL .i8 x146002_3)) (show w62.heap[gb145]? = some (.cells (⟨(.bool x146000_3) :: (.slice none 0 0) :: Arr.arL .i8 x146002_3⟩ : Array Value) 45 (0, 0)) from by (with_reducible repeat (first | refine blk_drewN ?_ _ | refine blk_drew ?_ | refine blk_alloc ?_ _)); exact BK145.out) rfl (by simp [Arr.arL_length]) (n := 18) (by kernel_rfl) (by simp [Arr.arL_length]) (Arr.ones_2 rfl rfl) ?_; (case ho => rfl); (case hg => rfl); (case hn => rfl); (case hx => first | (go_simp; done) | rfl | (go_simp; rfl)); (case hy => first | (go_simp; done) | rfl | (go_simp; rfl)); intro w63 hbx hg hbe; replace hbx : w63.heap[gb145]? = some (.cells (⟨(.bool ((rdOf ByteArray.empty t146 0).toList == ([115, 116, 111, 99, 107] : List UInt8))) :: (.slice Ao64 x155001_3.length co64) :: Arr.arL .i8 x155002_2⟩ : Array Value) 45 (0, 0)) := hbx; have n0_ := Aside0.mk (Kd.R_grown1 (by (with_reducible repeat (first | apply Kd.R_alloc | apply Kd.R_drewN | apply Kd.R_drew)); exact HO_4.out) rfl hg (Kd.R_ne HO_4.out BK145.out (by decide))); have n1_ := Aside0.mk (Kd.R_grown1 (by (with_reducible repeat (first | apply Kd.R_alloc | apply Kd.R_drewN | apply Kd.R_drew)); exact HO_155001.out) rfl hg (Kd.R_ne HO_155001.out BK145.out (by decide))); have n2_ := Aside0.mk (hbx); have n3_ := Aside0.mk (blk_grown (g := gb154) (o := .cells (⟨(.bool ((rdOf ByteArray.empty t146 0).toList == ([115, 116, 111, 99, 107] : List UInt8))) :: (.slice Ao64 x155001_3.length co64) :: Arr.arL .i8 x155002_2⟩ : Array Value) 45 (0, 0)) (by (with_reducible repeat (first | refine blk_drewN ?_ _ | refine blk_drew ?_ | refine blk_alloc ?_ _)); exact BK154.out) hg (fun e_ => NB154_145.out (Option.some.inj e_))); have n4_ := Aside0.mk (blk_grown (g := gb161) (o := .cells #[.int .i8 t158, .int .i16 t159] 62 (0, 0)) (by (with_reducible repeat (first | refine blk_drewN ?_ _ | refine blk_drew ?_ | refine blk_alloc ?_ _)); exact BK161.out) hg (fun e_ => NB161_145.out (Option.some.inj e_))); have n5_ := Aside0.mk (hbe _ _ (by repeat (first | (with_reducible first | exact HB.out | apply below_alloc | apply pw_below_drewN | apply below_drew1 | refine below_set ?_ GE145.out | refine below_set ?_ GE154.out | refine below_set ?_ GE161.out) | exact HB.out)) GE145.out); clear HO_4; clear HO_155001; clear BK145; clear BK154; clear BK161; clear HB; have HO_4 := n0_; have HO_155001 := n1_; have BK145 := n2_; have BK154 := n3_; have BK161 := n4_; have HB := n5_; clear n0_ n1_ n2_ n3_ n4_ n5_; (try clear hbx hg hbe)))
                          refine bodyPost_ret (results_ct rfl _ _ gb145 45 (⟨(.bool ((rdOf ByteArray.empty t146 0).toList == ([115, 116, 111, 99, 107] : List UInt8))) :: (.slice Ao64 x155001_3.length co64) :: Arr.arL .i8 x155002_2⟩ : Array Value) (0, 0) _ rfl (by (with_reducible repeat (first | refine blk_drewN ?_ _ | refine blk_drew ?_ | refine blk_alloc ?_ _)); exact BK145.out) Tryd.underlying45 rfl (by rw [show (Tryd.prog.info? 45).map (·.size) = some 18 from by kernel_rfl]; simp [Arr.arL_length])) rfl ?_
                          exact ⟨_, by first | rfl | (simp [errW_none, errW_some] <;> rfl) | (simp [*, errW_none, errW_some] <;> rfl), by (with_reducible repeat (first | apply Kd.R_alloc | apply Kd.R_drewN | apply Kd.R_drew)); exact Kd.R_mono HO_155001.out (fun _ hk => trivial), by repeat (first | (with_reducible first | exact HB.out | apply below_alloc | apply pw_below_drewN | apply below_drew1 | refine below_set ?_ GE145.out | refine below_set ?_ GE154.out | refine below_set ?_ GE161.out) | exact HB.out)⟩
                      · rw [if_neg c41] at H
                        exact absurd H (by simp)
                    · rw [if_neg c40] at H
                      have c40b0 : decide (x8_3 < (t146.length : Int)) = false := decide_eq_false c40
                      clear c40
                      replace H := Option.bind_eq_some_iff.mp H
                      obtain ⟨t165, A660, H⟩ := H
                      replace H : (some (((rdOf ByteArray.empty t146 0).toList == ([115, 116, 111, 99, 107] : List UInt8)), x155001_3, x155002_2, t165)) = some (r1, r2, r3, r4) := H
                      have A66 := Aside0.mk A660
                      clear A660
                      simp only [Option.some.injEq, Prod.mk.injEq] at H
                      obtain ⟨rfl, rfl, rfl, rfl⟩ := H
                      try go_wp2
                      have n0_ := Aside0.mk (Kd.R_drew HO_4.out)
                      have n1_ := Aside0.mk (Kd.R_drew HO_155001.out)
                      have n2_ := Aside0.mk (blk_drew BK145.out)
                      have n3_ := Aside0.mk (blk_drew BK154.out)
                      have n4_ := Aside0.mk (below_drew1 HB.out)
                      clear HO_4
                      clear HO_155001
                      clear BK145
                      clear BK154
                      clear HB
                      have HO_4 := n0_
                      have HO_155001 := n1_
                      have BK145 := n2_
                      have BK154 := n3_
                      have HB := n4_
                      clear n0_ n1_ n2_ n3_ n4_
                      obtain ⟨Ao69, co69, eo69⟩ := Kd.R_slice HO_155001.out
                      (first | subst eo69 | (injection eo69 with f1_ f2_ f3_; have f4_ := f1_.symm; have f5_ := f3_.symm; clear f1_ f2_ f3_; subst f4_; subst f5_))
                      refine start_ (n := 4) (S := fun w' => w'.heap[gb154]? = some (.cells (⟨(.bool ((rdOf ByteArray.empty t146 0).toList == ([115, 116, 111, 99, 107] : List UInt8))) :: (.slice Ao69 x155001_3.length co69) :: Arr.arL .i8 x155002_2⟩ : Array Value) 45 (0, 0))) (ds := [2]) #[false, false, false, false] (by kernel_rfl) rfl rfl (BK154.out) (fun hHeld => ?_)
                      generalize wr.drew = w68 at HO_4 HO_155001 BK145 BK154 HB hHeld ⊢
                      refine take_ (i := 0) (N := some 86) (v := ?_) (a' := ?_) #[true, false, false, false] rfl rfl (by kernel_rfl) (fun _ _ _ h => h) (Or.inl ⟨by rfl, ?_⟩) hHeld ?_ ?_
                      rotate_left
                      · intro w' s0
                        refine Arr.exec_load (T := 45) (p := 5) (g := gb154) (off := 0) (t := 45) (l := ((.bool ((rdOf ByteArray.empty t146 0).toList == ([115, 116, 111, 99, 107] : List UInt8))) :: (.slice Ao69 x155001_3.length co69) :: Arr.arL .i8 x155002_2)) (m := ((.bool ((rdOf ByteArray.empty t146 0).toList == ([115, 116, 111, 99, 107] : List UInt8))) :: (.slice Ao69 x155001_3.length co69) :: Arr.arL .i8 x155002_2)) (fr := (0, 0)) (n := 18) ?_ ?_ s0 ?_ Tryd.underlying45 ?_ ?_ ?_
                        · rfl
                        · first | (go_simp; done) | rfl | (go_simp; rfl)
                        · rfl
                        · rfl
                        · kernel_rfl
                        · simp [Arr.arL_length]
                      rotate_left
                      · simp only [Act.put, List.setIfInBounds_toArray, List.set_cons_zero, List.set_cons_succ, i64_w, i32_w]
                        rfl
                      refine one_ (i := 1) (N := some 87) #[true, true, false, false] rfl rfl (by kernel_rfl) (by decide) (fun K hK => ?_)
                      refine goes_ Tryd.func68 (by kernel_rfl) rfl #[.pointer (some ⟨gb154, 0, none⟩)] (by rfl) rfl rfl (by (try simp only [List.map_toArray, List.map_cons, List.map_nil]); first | done | (go_simp; done) | rfl | (simp only [List.length_drop, List.length_take]; rfl)) ?_
                      with_reducible refine (spec_l01Ok.calls k3 gb154 ((rdOf ByteArray.empty t146 0).toList == ([115, 116, 111, 99, 107] : List UInt8)) Ao69 co69 x155001_3 x155002_2 t165 _ ?side1 ?side2 ?side3 A66.out).mono ?_
                      (case side1 => exact by (with_reducible repeat (first | refine blk_drewN ?_ _ | refine blk_drew ?_ | refine blk_alloc ?_ _)); exact BK154.out)
                      (case side2 => repeat (first | exact (Kd.R_reads' HO_155001.out).2.2 | (with_reducible refine Kd.C_alloc ?_ _) | (with_reducible refine Kd.C_drewN ?_ _) | (with_reducible refine Kd.C_drew ?_)))
                      (case side3 => exact (Kd.R_reads' HO_155001.out).2.1)
                      rintro e w70 ⟨rfl, hb⟩
                      refine ⟨_, rfl, ?_⟩
                      have n0_ := Aside0.mk (Kd.R_below (by (with_reducible repeat (first | apply Kd.R_alloc | apply Kd.R_drewN | apply Kd.R_drew)); exact HO_4.out) hb)
                      have n1_ := Aside0.mk (Kd.R_below (by (with_reducible repeat (first | apply Kd.R_alloc | apply Kd.R_drewN | apply Kd.R_drew)); exact HO_155001.out) hb)
                      have n2_ := Aside0.mk (blk_below (g := gb145) (o := .cells (⟨(.bool x146000_3) :: (.slice none 0 0) :: Arr.arL .i8 x146002_3⟩ : Array Value) 45 (0, 0)) (by (with_reducible repeat (first | refine blk_drewN ?_ _ | refine blk_drew ?_ | refine blk_alloc ?_ _)); exact BK145.out) hb)
                      have n3_ := Aside0.mk (blk_below (g := gb154) (o := .cells (⟨(.bool ((rdOf ByteArray.empty t146 0).toList == ([115, 116, 111, 99, 107] : List UInt8))) :: (.slice Ao69 x155001_3.length co69) :: Arr.arL .i8 x155002_2⟩ : Array Value) 45 (0, 0)) (by (with_reducible repeat (first | refine blk_drewN ?_ _ | refine blk_drew ?_ | refine blk_alloc ?_ _)); exact BK154.out) hb)
                      have n4_ := Aside0.mk (below_step (by repeat (first | (with_reducible first | exact HB.out | apply below_alloc | apply pw_below_drewN | apply below_drew1 | refine below_set ?_ GE145.out | refine below_set ?_ GE154.out) | exact HB.out)) hb)
                      clear HO_4
                      clear HO_155001
                      clear BK145
                      clear BK154
                      clear HB
                      have HO_4 := n0_
                      have HO_155001 := n1_
                      have BK145 := n2_
                      have BK154 := n3_
                      have HB := n4_
                      clear n0_ n1_ n2_ n3_ n4_
                      (try clear hb)
                      (try clear hb2)
                      (try clear hk)
                      (try clear hi)
                      refine hK.out _ _ (BK154.out) (fun hHeld => ?_)
                      clear hK K
                      refine norm_ (a' := ?_) ?_ ?_
                      rotate_left
                      · show Act.put _ (some 87) _ = _
                        simp only [Act.put, List.setIfInBounds_toArray, List.set_cons_zero, List.set_cons_succ, i64_w, i32_w]
                        rfl
                      refine last_ (i := 2) (N := none) #[true, true, true, false] rfl rfl (by kernel_rfl) (by decide) (fun K hK => ?_)
                      obtain ⟨w71, hw_, hbx, hg, hbe⟩ := Arr2.stored_row (g := gb145) (off := 0) (t := 45) (pre := []) (old := ((.bool x146000_3) :: (.slice none 0 0) :: Arr.arL .i8 x146002_3)) (m := ((.bool ((rdOf ByteArray.empty t146 0).toList == ([115, 116, 111, 99, 107] : List UInt8))) :: (.slice Ao69 x155001_3.length co69) :: Arr.arL .i8 x155002_2)) (show w70.heap[gb145]? = some (.cells (⟨(.bool x146000_3) :: (.slice none 0 0) :: Arr.arL .i8 x146002_3⟩ : Array Value) 45 (0, 0)) from by (with_reducible repeat (first | refine blk_drewN ?_ _ | refine blk_drew ?_ | refine blk_alloc ?_ _)); exact BK145.out) rfl (by simp [Arr.arL_length])
                      refine skip_ (w1 := w71) (by rfl) rfl ?_ ?_
                      · rw [← hw_]
                        exact Arr2.exec_store (T := 45) (p := 2) rfl (by first | (go_simp; done) | rfl | (go_simp; rfl)) (by first | (go_simp; done) | rfl | (go_simp; rfl)) (t := 45) (pre := []) (old := ((.bool x146000_3) :: (.slice none 0 0) :: Arr.arL .i8 x146002_3)) (show w70.heap[gb145]? = some (.cells (⟨(.bool x146000_3) :: (.slice none 0 0) :: Arr.arL .i8 x146002_3⟩ : Array Value) 45 (0, 0)) from by (with_reducible repeat (first | refine blk_drewN ?_ _ | refine blk_drew ?_ | refine blk_alloc ?_ _)); exact BK145.out) rfl (by simp [Arr.arL_length]) (n := 18) (by kernel_rfl) (by simp [Arr.arL_length]) (Arr.ones_2 rfl rfl)
                      clear hw_
                      replace hbx : w71.heap[gb145]? = some (.cells (⟨(.bool ((rdOf ByteArray.empty t146 0).toList == ([115, 116, 111, 99, 107] : List UInt8))) :: (.slice Ao69 x155001_3.length co69) :: Arr.arL .i8 x155002_2⟩ : Array Value) 45 (0, 0)) := hbx
                      have n0_ := Aside0.mk (Kd.R_grown1 (by (with_reducible repeat (first | apply Kd.R_alloc | apply Kd.R_drewN | apply Kd.R_drew)); exact HO_4.out) rfl hg (Kd.R_ne HO_4.out BK145.out (by decide)))
                      have n1_ := Aside0.mk (Kd.R_grown1 (by (with_reducible repeat (first | apply Kd.R_alloc | apply Kd.R_drewN | apply Kd.R_drew)); exact HO_155001.out) rfl hg (Kd.R_ne HO_155001.out BK145.out (by decide)))
                      have n2_ := Aside0.mk (hbx)
                      have n3_ := Aside0.mk (blk_grown (g := gb154) (o := .cells (⟨(.bool ((rdOf ByteArray.empty t146 0).toList == ([115, 116, 111, 99, 107] : List UInt8))) :: (.slice Ao69 x155001_3.length co69) :: Arr.arL .i8 x155002_2⟩ : Array Value) 45 (0, 0)) (by (with_reducible repeat (first | refine blk_drewN ?_ _ | refine blk_drew ?_ | refine blk_alloc ?_ _)); exact BK154.out) hg (fun e_ => NB154_145.out (Option.some.inj e_)))
                      have n4_ := Aside0.mk (hbe _ _ (by repeat (first | (with_reducible first | exact HB.out | apply below_alloc | apply pw_below_drewN | apply below_drew1 | refine below_set ?_ GE145.out | refine below_set ?_ GE154.out) | exact HB.out)) GE145.out)
                      clear HO_4
                      clear HO_155001
                      clear BK145
                      clear BK154
                      clear HB
                      have HO_4 := n0_
                      have HO_155001 := n1_
                      have BK145 := n2_
                      have BK154 := n3_
                      have HB := n4_
                      clear n0_ n1_ n2_ n3_ n4_
                      (try clear hbx hg hbe)
                      refine hK.out _ _ ?_
                      clear hK K
                      refine pure_ (i := 3) (N := some 3) (v := ?_) (a' := ?_) #[true, true, true, true] rfl rfl (by kernel_rfl) (fun _ _ _ h => h) (Or.inl ⟨by rfl, ?_⟩) ?_ ?_
                      rotate_left
                      · intro w'
                        go_simp
                        with_reducible rfl
                      rotate_left
                      · simp only [Act.put, List.setIfInBounds_toArray, List.set_cons_zero, List.set_cons_succ, i64_w, i32_w]
                        rfl
                      refine done_ (by kernel_rfl) ?_
                      try go_wp2
                      refine bodyPost_ret (results_ct rfl _ _ gb145 45 (⟨(.bool ((rdOf ByteArray.empty t146 0).toList == ([115, 116, 111, 99, 107] : List UInt8))) :: (.slice Ao69 x155001_3.length co69) :: Arr.arL .i8 x155002_2⟩ : Array Value) (0, 0) _ rfl (by (with_reducible repeat (first | refine blk_drewN ?_ _ | refine blk_drew ?_ | refine blk_alloc ?_ _)); exact BK145.out) Tryd.underlying45 rfl (by rw [show (Tryd.prog.info? 45).map (·.size) = some 18 from by kernel_rfl]; simp [Arr.arL_length])) rfl ?_
                      exact ⟨_, by first | rfl | (simp [errW_none, errW_some] <;> rfl) | (simp [*, errW_none, errW_some] <;> rfl), by (with_reducible repeat (first | apply Kd.R_alloc | apply Kd.R_drewN | apply Kd.R_drew)); exact HO_155001.out, by repeat (first | (with_reducible first | exact HB.out | apply below_alloc | apply pw_below_drewN | apply below_drew1 | refine below_set ?_ GE145.out | refine below_set ?_ GE154.out) | exact HB.out)⟩
        · rw [if_neg c19] at H
          exact absurd H (by simp)

/-! ### spec_ReadHalf: function 26 -/
def spec_ReadHalf.f (k : Nat) (a0 : ByteArray) : Option (Bool × (List (S62)) × Vector Int 16 × Int) := (spec_l01ReadHalf.f k a0).bind fun bt167 => (if bt167.2.2.2 = true then (some (bt167.1, bt167.2.1, bt167.2.2.1, 0)) else (some (false, ([] : List (S62)), (Vector.replicate 16 0 : Vector Int 16), 5)))
theorem spec_ReadHalf.mono : ∀ a0 k, LeO (spec_ReadHalf.f k a0) (spec_ReadHalf.f (k + 1) a0) := by
  intro a0 k
  unfold spec_ReadHalf.f
  repeat' first
      | (with_reducible exact spec_l01ReadHalf.mono _ _)
      | (with_reducible exact LeO.refl _)
      | (with_reducible exact LeO.none _)
      | (with_reducible refine LeO.ite ?_ ?_)
      | (with_reducible refine LeO.bind ?_ (fun _ => ?_))
      | exact spec_l01ReadHalf.mono _ _
      | exact LeO.none _
      | refine LeO.ite ?_ ?_
      | refine LeO.bind ?_ (fun _ => ?_)
set_option maxHeartbeats 8000000 in
set_option maxRecDepth 100000 in
theorem spec_ReadHalf.calls (k : Nat) (a0 : ByteArray) (r1 : Bool) (r2 : List (S62)) (r3 : Vector Int 16) (r4 : Int) (w : World) (h : spec_ReadHalf.f k a0 = some (r1, r2, r3, r4)) :
    Calls Tryd.prog 26 #[.string a0] w fun e w' => ∃ v1_ : Value, e = .returned (.tuple #[.agg (⟨(.bool r1) :: (v1_) :: Arr.arL .i8 r3⟩ : Array Value), .int .i64 r4]) ∧ Kd.R k62 62 w' w.heap.size (fun _ => True) v1_ r2 ∧ Below w.heap.size w w' := by
  have hu45 := Tryd.underlying45
  have HB := Aside0.mk (Below.refl w.heap.size w)
  have H : ((spec_l01ReadHalf.f k a0).bind fun bt167 => (if bt167.2.2.2 = true then (some (bt167.1, bt167.2.1, bt167.2.2.1, 0)) else (some (false, ([] : List (S62)), (Vector.replicate 16 0 : Vector Int 16), 5)))) = some (r1, r2, r3, r4) := h
  clear h
  replace H := Option.bind_eq_some_iff.mp H
  obtain ⟨⟨t167, t168, t171, t172⟩, A20, H⟩ := H
  replace H : (if t172 = true then (some (t167, t168, t171, 0)) else (some (false, ([] : List (S62)), (Vector.replicate 16 0 : Vector Int 16), 5))) = some (r1, r2, r3, r4) := H
  have A2 := Aside0.mk A20
  clear A20
  by_cases c4 : t172 = true
  · subst c4
    have H1 : (some (t167, t168, t171, 0)) = some (r1, r2, r3, r4) := by rw [if_pos rfl] at H; exact H
    clear H
    have H := H1
    clear H1
    simp only [Option.some.injEq, Prod.mk.injEq] at H
    obtain ⟨rfl, rfl, rfl, rfl⟩ := H
    go_enter Tryd.func26, Tryd.ntmps26
    go_wp2_with (first | ((with_reducible refine gate_dst (N := 2) rfl ?_); refine box_event ?hg (N := 2) ?hd (cs := (⟨(.bool false) :: (.slice none 0 0) :: Arr.arL .i8 (Vector.replicate 16 0 : Vector Int 16)⟩ : Array Value)) (t := 45) ?hr ?_; (case hd => rfl); (case hg => rfl); (case hr => first | (go_simp; done) | (go_simp; rfl)); intro gb166 hg w7 hbox hb; have n0_ := Aside0.mk (below_step (by repeat (first | (with_reducible first | exact HB.out | apply below_alloc | apply pw_below_drewN | apply below_drew1) | exact HB.out)) hb); have n1_ := Aside0.mk (hbox); have n2_ := Aside0.mk ((by rw [hg]; exact (below_size (by repeat (first | (with_reducible first | exact HB.out | apply below_alloc | apply pw_below_drewN | apply below_drew1) | exact HB.out))) : w.heap.size ≤ gb166)); have n3_ := Aside0.mk ((by rw [hg]; exact (below_size (by repeat (first | (with_reducible first | exact HB.out | apply below_alloc | apply pw_below_drewN | apply below_drew1) | exact HB.out))) : w.heap.size ≤ gb166)); clear HB; have HB := n0_; have BK166 := n1_; have GW166 := n2_; have GE166 := n3_; clear n0_ n1_ n2_ n3_; clear hb hbox hg) | ((with_reducible refine gate_callee (f := 76) rfl ?_); refine goesL_ (some 8) rfl rfl Tryd.func76 (by kernel_rfl) rfl #[.string a0] rfl (by (try simp only [List.map_toArray, List.map_cons, List.map_nil]); first | done | (go_simp; done) | rfl | (simp only [List.length_drop, List.length_take]; rfl)) ?_; (with_reducible refine (spec_l01ReadHalf.calls k a0 t167 t168 t171 true _ A2.out).mono ?_); rintro e w8 ⟨v169, rfl, ho0, hb⟩; refine ⟨_, rfl, ?_⟩; have n0_ := Aside0.mk (Kd.R_lower ho0 (below_size (by repeat (first | (with_reducible first | exact HB.out | apply below_alloc | apply pw_below_drewN | apply below_drew1 | refine below_set ?_ GE166.out) | exact HB.out)))); have n1_ := Aside0.mk (blk_below (g := gb166) (o := .cells (⟨(.bool false) :: (.slice none 0 0) :: Arr.arL .i8 (Vector.replicate 16 0 : Vector Int 16)⟩ : Array Value) 45 (0, 0)) (by (with_reducible repeat (first | refine blk_drewN ?_ _ | refine blk_drew ?_ | refine blk_alloc ?_ _)); exact BK166.out) hb); have n2_ := Aside0.mk (below_step (by repeat (first | (with_reducible first | exact HB.out | apply below_alloc | apply pw_below_drewN | apply below_drew1 | refine below_set ?_ GE166.out) | exact HB.out)) hb); clear BK166; clear HB; have HO170 := n0_; have BK166 := n1_; have HB := n2_; clear n0_ n1_ n2_; (try clear hb); (try clear hb2); (try clear hk); (try clear hi); (try clear ho0)) | ((with_reducible refine gate_dst (N := 4) rfl ?_); refine box_event ?hg (N := 4) ?hd (cs := (⟨(.bool false) :: (.slice none 0 0) :: Arr.arL .i8 (Vector.replicate 16 0 : Vector Int 16)⟩ : Array Value)) (t := 45) ?hr ?_; (case hd => rfl); (case hg => rfl); (case hr => first | (go_simp; done) | (go_simp; rfl)); intro gb173 hg w9 hbox hb; have n0_ := Aside0.mk (Kd.R_below (by (with_reducible repeat (first | apply Kd.R_alloc | apply Kd.R_drewN | apply Kd.R_drew)); exact HO170.out) hb); have n1_ := Aside0.mk (blk_below (g := gb166) (o := .cells (⟨(.bool false) :: (.slice none 0 0) :: Arr.arL .i8 (Vector.replicate 16 0 : Vector Int 16)⟩ : Array Value) 45 (0, 0)) (by (with_reducible repeat (first | refine blk_drewN ?_ _ | refine blk_drew ?_ | refine blk_alloc ?_ _)); exact BK166.out) hb); have n2_ := Aside0.mk (below_step (by repeat (first | (with_reducible first | exact HB.out | apply below_alloc | apply pw_below_drewN | apply below_drew1 | refine below_set ?_ GE166.out) | exact HB.out)) hb); have n3_ := Aside0.mk (hbox); have n4_ := Aside0.mk ((by rw [hg]; exact (below_size (by repeat (first | (with_reducible first | exact HB.out | apply below_alloc | apply pw_below_drewN | apply below_drew1 | refine below_set ?_ GE166.out) | exact HB.out))) : w.heap.size ≤ gb173)); have n5_ := Aside0.mk ((by rw [hg]; exact (below_size (by repeat (first | (with_reducible first | exact HB.out | apply below_alloc | apply pw_below_drewN | apply below_drew1 | refine below_set ?_ GE166.out) | exact HB.out))) : w.heap.size ≤ gb173)); have n6_ := Aside0.mk ((by rw [hg]; exact Nat.ne_of_lt (blk_lt (g := gb166) (o := .cells (⟨(.bool false) :: (.slice none 0 0) :: Arr.arL .i8 (Vector.replicate 16 0 : Vector Int 16)⟩ : Array Value) 45 (0, 0)) (by (with_reducible repeat (first | refine blk_drewN ?_ _ | refine blk_drew ?_ | refine blk_alloc ?_ _)); exact BK166.out)) : gb166 ≠ gb173)); have n7_ := Aside0.mk ((by rw [hg]; exact Nat.ne_of_gt (blk_lt (g := gb166) (o := .cells (⟨(.bool false) :: (.slice none 0 0) :: Arr.arL .i8 (Vector.replicate 16 0 : Vector Int 16)⟩ : Array Value) 45 (0, 0)) (by (with_reducible repeat (first | refine blk_drewN ?_ _ | refine blk_drew ?_ | refine blk_alloc ?_ _)); exact BK166.out)) : gb173 ≠ gb166)); clear HO170; clear BK166; clear HB; have HO170 := n0_; have BK166 := n1_; have HB := n2_; have BK173 := n3_; have GW173 := n4_; have GE173 := n5_; have NB166_173 := n6_; have NB173_166 := n7_; clear n0_ n1_ n2_ n3_ n4_ n5_ n6_ n7_; clear hb hbox hg; obtain ⟨Ao11, co11, eo11⟩ := Kd.R_slice HO170.out; subst eo11) | ((with_reducible refine gate_store (t := 45) (p := 4) rfl ?_); refine Arr.storeA ?hg (T := 45) (p := 4) (v := ?vo_w10) ?ho ?hn (g := gb173) (off := 0) ?hx (m := ((.bool t167) :: (.slice Ao11 t168.length co11) :: Arr.arL .i8 t171)) ?hy (t := 45) (pre := []) (old := ((.bool false) :: (.slice none 0 0) :: Arr.arL .i8 (Vector.replicate 16 0 : Vector Int 16))) (show w9.heap[gb173]? = some (.cells (⟨(.bool false) :: (.slice none 0 0) :: Arr.arL .i8 (Vector.replicate 16 0 : Vector Int 16)⟩ : Array Value) 45 (0, 0)) from by (with_reducible repeat (first | refine blk_drewN ?_ _ | refine blk_drew ?_ | refine blk_alloc ?_ _)); exact BK173.out) rfl (by simp [Arr.arL_length]) (n := 18) (by kernel_rfl) (by simp [Arr.arL_length]) (Arr.ones_2 rfl rfl) ?_; (case ho => rfl); (case hg => rfl); (case hn => rfl); (case hx => first | (go_simp; done) | rfl | (go_simp; rfl)); (case hy => first | (go_simp; done) | rfl | (go_simp; rfl)); intro w10 hbx hg hbe; replace hbx : w10.heap[gb173]? = some (.cells (⟨(.bool t167) :: (.slice Ao11 t168.length co11) :: Arr.arL .i8 t171⟩ : Array Value) 45 (0, 0)) := hbx; have n0_ := Aside0.mk (blk_grown (g := gb166) (o := .cells (⟨(.bool false) :: (.slice none 0 0) :: Arr.arL .i8 (Vector.replicate 16 0 : Vector Int 16)⟩ : Array Value) 45 (0, 0)) (by (with_reducible repeat (first | refine blk_drewN ?_ _ | refine blk_drew ?_ | refine blk_alloc ?_ _)); exact BK166.out) hg (fun e_ => NB166_173.out (Option.some.inj e_))); have n1_ := Aside0.mk (Kd.R_grown1 (by (with_reducible repeat (first | apply Kd.R_alloc | apply Kd.R_drewN | apply Kd.R_drew)); exact HO170.out) rfl hg (Kd.R_ne HO170.out BK173.out (by decide))); have n2_ := Aside0.mk (hbx); have n3_ := Aside0.mk (hbe _ _ (by repeat (first | (with_reducible first | exact HB.out | apply below_alloc | apply pw_below_drewN | apply below_drew1 | refine below_set ?_ GE166.out | refine below_set ?_ GE173.out) | exact HB.out)) GE173.out); clear BK166; clear HO170; clear BK173; clear HB; have BK166 := n0_; have HO170 := n1_; have BK173 := n2_; have HB := n3_; clear n0_ n1_ n2_ n3_; (try clear hbx hg hbe)) | ((with_reducible refine Arr.gate_load (t := 45) (p := 4) rfl ?_); (try (refine gate_guard (by rfl) ?_; dsimp only)); refine Arr.loadA ?hg (T := 45) (p := 4) ?ho (g := gb173) (off := 0) ?hx (t := 45) (l := ((.bool t167) :: (.slice Ao11 t168.length co11) :: Arr.arL .i8 t171)) (m := ((.bool t167) :: (.slice Ao11 t168.length co11) :: Arr.arL .i8 t171)) (fr := (0, 0)) (show w10.heap[gb173]? = some (.cells (⟨(.bool t167) :: (.slice Ao11 t168.length co11) :: Arr.arL .i8 t171⟩ : Array Value) 45 (0, 0)) from by (with_reducible repeat (first | refine blk_drewN ?_ _ | refine blk_drew ?_ | refine blk_alloc ?_ _)); exact BK173.out) rfl Tryd.underlying45 rfl (n := 18) (by kernel_rfl) (by simp [Arr.arL_length]) ?_; (case hg => rfl); (case ho => rfl); (case hx => first | (go_simp; done) | rfl | (go_simp; rfl))) | ((with_reducible refine gate_store (t := 45) (p := 2) rfl ?_); refine Arr.storeA ?hg (T := 45) (p := 2) (v := ?vo_w12) ?ho ?hn (g := gb166) (off := 0) ?hx (m := ((.bool t167) :: (.slice Ao11 t168.length co11) :: Arr.arL .i8 t171)) ?hy (t := 45) (pre := []) (old := ((.bool false) :: (.slice none 0 0) :: Arr.arL .i8 (Vector.replicate 16 0 : Vector Int 16))) (show w10.heap[gb166]? = some (.cells (⟨(.bool false) :: (.slice none 0 0) :: Arr.arL .i8 (Vector.replicate 16 0 : Vector Int 16)⟩ : Array Value) 45 (0, 0)) from by (with_reducible repeat (first | refine blk_drewN ?_ _ | refine blk_drew ?_ | refine blk_alloc ?_ _)); exact BK166.out) rfl (by simp [Arr.arL_length]) (n := 18) (by kernel_rfl) (by simp [Arr.arL_length]) (Arr.ones_2 rfl rfl) ?_; (case ho => rfl); (case hg => rfl); (case hn => rfl); (case hx => first | (go_simp; done) | rfl | (go_simp; rfl)); (case hy => first | (go_simp; done) | rfl | (go_simp; rfl)); intro w12 hbx hg hbe; replace hbx : w12.heap[gb166]? = some (.cells (⟨(.bool t167) :: (.slice Ao11 t168.length co11) :: Arr.arL .i8 t171⟩ : Array Value) 45 (0, 0)) := hbx; have n0_ := Aside0.mk (hbx); have n1_ := Aside0.mk (Kd.R_grown1 (by (with_reducible repeat (first | apply Kd.R_alloc | apply Kd.R_drewN | apply Kd.R_drew)); exact HO170.out) rfl hg (Kd.R_ne HO170.out BK166.out (by decide))); have n2_ := Aside0.mk (blk_grown (g := gb173) (o := .cells (⟨(.bool t167) :: (.slice Ao11 t168.length co11) :: Arr.arL .i8 t171⟩ : Array Value) 45 (0, 0)) (by (with_reducible repeat (first | refine blk_drewN ?_ _ | refine blk_drew ?_ | refine blk_alloc ?_ _)); exact BK173.out) hg (fun e_ => NB173_166.out (Option.some.inj e_))); have n3_ := Aside0.mk (hbe _ _ (by repeat (first | (with_reducible first | exact HB.out | apply below_alloc | apply pw_below_drewN | apply below_drew1 | refine below_set ?_ GE166.out | refine below_set ?_ GE173.out) | exact HB.out)) GE166.out); clear BK166; clear HO170; clear BK173; clear HB; have BK166 := n0_; have HO170 := n1_; have BK173 := n2_; have HB := n3_; clear n0_ n1_ n2_ n3_; (try clear hbx hg hbe)))
    refine bodyPost_ret (results_ct rfl _ _ gb166 45 (⟨(.bool t167) :: (.slice Ao11 t168.length co11) :: Arr.arL .i8 t171⟩ : Array Value) (0, 0) _ rfl (by (with_reducible repeat (first | refine blk_drewN ?_ _ | refine blk_drew ?_ | refine blk_alloc ?_ _)); exact BK166.out) Tryd.underlying45 rfl (by rw [show (Tryd.prog.info? 45).map (·.size) = some 18 from by kernel_rfl]; simp [Arr.arL_length])) rfl ?_
    exact ⟨_, by first | rfl | (simp [errW_none, errW_some] <;> rfl) | (simp [*, errW_none, errW_some] <;> rfl), by (with_reducible repeat (first | apply Kd.R_alloc | apply Kd.R_drewN | apply Kd.R_drew)); exact HO170.out, by repeat (first | (with_reducible first | exact HB.out | apply below_alloc | apply pw_below_drewN | apply below_drew1 | refine below_set ?_ GE166.out | refine below_set ?_ GE173.out) | exact HB.out)⟩
  · replace c4 := Bool.eq_false_iff.mpr c4
    subst c4
    have H1 : (some (false, ([] : List (S62)), (Vector.replicate 16 0 : Vector Int 16), 5)) = some (r1, r2, r3, r4) := by rw [if_neg (show ¬ (false = true) by decide)] at H; exact H
    clear H
    have H := H1
    clear H1
    simp only [Option.some.injEq, Prod.mk.injEq] at H
    obtain ⟨rfl, rfl, rfl, rfl⟩ := H
    go_enter Tryd.func26, Tryd.ntmps26
    go_wp2_with (first | ((with_reducible refine gate_dst (N := 2) rfl ?_); refine box_event ?hg (N := 2) ?hd (cs := (⟨(.bool false) :: (.slice none 0 0) :: Arr.arL .i8 (Vector.replicate 16 0 : Vector Int 16)⟩ : Array Value)) (t := 45) ?hr ?_; (case hd => rfl); (case hg => rfl); (case hr => first | (go_simp; done) | (go_simp; rfl)); intro gb166 hg w14 hbox hb; have n0_ := Aside0.mk (below_step (by repeat (first | (with_reducible first | exact HB.out | apply below_alloc | apply pw_below_drewN | apply below_drew1) | exact HB.out)) hb); have n1_ := Aside0.mk (hbox); have n2_ := Aside0.mk ((by rw [hg]; exact (below_size (by repeat (first | (with_reducible first | exact HB.out | apply below_alloc | apply pw_below_drewN | apply below_drew1) | exact HB.out))) : w.heap.size ≤ gb166)); have n3_ := Aside0.mk ((by rw [hg]; exact (below_size (by repeat (first | (with_reducible first | exact HB.out | apply below_alloc | apply pw_below_drewN | apply below_drew1) | exact HB.out))) : w.heap.size ≤ gb166)); clear HB; have HB := n0_; have BK166 := n1_; have GW166 := n2_; have GE166 := n3_; clear n0_ n1_ n2_ n3_; clear hb hbox hg) | ((with_reducible refine gate_callee (f := 76) rfl ?_); refine goesL_ (some 8) rfl rfl Tryd.func76 (by kernel_rfl) rfl #[.string a0] rfl (by (try simp only [List.map_toArray, List.map_cons, List.map_nil]); first | done | (go_simp; done) | rfl | (simp only [List.length_drop, List.length_take]; rfl)) ?_; (with_reducible refine (spec_l01ReadHalf.calls k a0 t167 t168 t171 false _ A2.out).mono ?_); rintro e w15 ⟨v169, rfl, ho0, hb⟩; refine ⟨_, rfl, ?_⟩; have n0_ := Aside0.mk (Kd.R_lower ho0 (below_size (by repeat (first | (with_reducible first | exact HB.out | apply below_alloc | apply pw_below_drewN | apply below_drew1 | refine below_set ?_ GE166.out) | exact HB.out)))); have n1_ := Aside0.mk (blk_below (g := gb166) (o := .cells (⟨(.bool false) :: (.slice none 0 0) :: Arr.arL .i8 (Vector.replicate 16 0 : Vector Int 16)⟩ : Array Value) 45 (0, 0)) (by (with_reducible repeat (first | refine blk_drewN ?_ _ | refine blk_drew ?_ | refine blk_alloc ?_ _)); exact BK166.out) hb); have n2_ := Aside0.mk (below_step (by repeat (first | (with_reducible first | exact HB.out | apply below_alloc | apply pw_below_drewN | apply below_drew1 | refine below_set ?_ GE166.out) | exact HB.out)) hb); clear BK166; clear HB; have HO170 := n0_; have BK166 := n1_; have HB := n2_; clear n0_ n1_ n2_; (try clear hb); (try clear hb2); (try clear hk); (try clear hi); (try clear ho0)) | ((with_reducible refine gate_dst (N := 4) rfl ?_); refine box_event ?hg (N := 4) ?hd (cs := (⟨(.bool false) :: (.slice none 0 0) :: Arr.arL .i8 (Vector.replicate 16 0 : Vector Int 16)⟩ : Array Value)) (t := 45) ?hr ?_; (case hd => rfl); (case hg => rfl); (case hr => first | (go_simp; done) | (go_simp; rfl)); intro gb173 hg w16 hbox hb; have n0_ := Aside0.mk (Kd.R_below (by (with_reducible repeat (first | apply Kd.R_alloc | apply Kd.R_drewN | apply Kd.R_drew)); exact HO170.out) hb); have n1_ := Aside0.mk (blk_below (g := gb166) (o := .cells (⟨(.bool false) :: (.slice none 0 0) :: Arr.arL .i8 (Vector.replicate 16 0 : Vector Int 16)⟩ : Array Value) 45 (0, 0)) (by (with_reducible repeat (first | refine blk_drewN ?_ _ | refine blk_drew ?_ | refine blk_alloc ?_ _)); exact BK166.out) hb); have n2_ := Aside0.mk (below_step (by repeat (first | (with_reducible first | exact HB.out | apply below_alloc | apply pw_below_drewN | apply below_drew1 | refine below_set ?_ GE166.out) | exact HB.out)) hb); have n3_ := Aside0.mk (hbox); have n4_ := Aside0.mk ((by rw [hg]; exact (below_size (by repeat (first | (with_reducible first | exact HB.out | apply below_alloc | apply pw_below_drewN | apply below_drew1 | refine below_set ?_ GE166.out) | exact HB.out))) : w.heap.size ≤ gb173)); have n5_ := Aside0.mk ((by rw [hg]; exact (below_size (by repeat (first | (with_reducible first | exact HB.out | apply below_alloc | apply pw_below_drewN | apply below_drew1 | refine below_set ?_ GE166.out) | exact HB.out))) : w.heap.size ≤ gb173)); have n6_ := Aside0.mk ((by rw [hg]; exact Nat.ne_of_lt (blk_lt (g := gb166) (o := .cells (⟨(.bool false) :: (.slice none 0 0) :: Arr.arL .i8 (Vector.replicate 16 0 : Vector Int 16)⟩ : Array Value) 45 (0, 0)) (by (with_reducible repeat (first | refine blk_drewN ?_ _ | refine blk_drew ?_ | refine blk_alloc ?_ _)); exact BK166.out)) : gb166 ≠ gb173)); have n7_ := Aside0.mk ((by rw [hg]; exact Nat.ne_of_gt (blk_lt (g := gb166) (o := .cells (⟨(.bool false) :: (.slice none 0 0) :: Arr.arL .i8 (Vector.replicate 16 0 : Vector Int 16)⟩ : Array Value) 45 (0, 0)) (by (with_reducible repeat (first | refine blk_drewN ?_ _ | refine blk_drew ?_ | refine blk_alloc ?_ _)); exact BK166.out)) : gb173 ≠ gb166)); clear HO170; clear BK166; clear HB; have HO170 := n0_; have BK166 := n1_; have HB := n2_; have BK173 := n3_; have GW173 := n4_; have GE173 := n5_; have NB166_173 := n6_; have NB173_166 := n7_; clear n0_ n1_ n2_ n3_ n4_ n5_ n6_ n7_; clear hb hbox hg; obtain ⟨Ao18, co18, eo18⟩ := Kd.R_slice HO170.out; subst eo18) | ((with_reducible refine gate_store (t := 45) (p := 4) rfl ?_); refine Arr.storeA ?hg (T := 45) (p := 4) (v := ?vo_w17) ?ho ?hn (g := gb173) (off := 0) ?hx (m := ((.bool t167) :: (.slice Ao18 t168.length co18) :: Arr.arL .i8 t171)) ?hy (t := 45) (pre := []) (old := ((.bool false) :: (.slice none 0 0) :: Arr.arL .i8 (Vector.replicate 16 0 : Vector Int 16))) (show w16.heap[gb173]? = some (.cells (⟨(.bool false) :: (.slice none 0 0) :: Arr.arL .i8 (Vector.replicate 16 0 : Vector Int 16)⟩ : Array Value) 45 (0, 0)) from by (with_reducible repeat (first | refine blk_drewN ?_ _ | refine blk_drew ?_ | refine blk_alloc ?_ _)); exact BK173.out) rfl (by simp [Arr.arL_length]) (n := 18) (by kernel_rfl) (by simp [Arr.arL_length]) (Arr.ones_2 rfl rfl) ?_; (case ho => rfl); (case hg => rfl); (case hn => rfl); (case hx => first | (go_simp; done) | rfl | (go_simp; rfl)); (case hy => first | (go_simp; done) | rfl | (go_simp; rfl)); intro w17 hbx hg hbe; replace hbx : w17.heap[gb173]? = some (.cells (⟨(.bool t167) :: (.slice Ao18 t168.length co18) :: Arr.arL .i8 t171⟩ : Array Value) 45 (0, 0)) := hbx; have n0_ := Aside0.mk (blk_grown (g := gb166) (o := .cells (⟨(.bool false) :: (.slice none 0 0) :: Arr.arL .i8 (Vector.replicate 16 0 : Vector Int 16)⟩ : Array Value) 45 (0, 0)) (by (with_reducible repeat (first | refine blk_drewN ?_ _ | refine blk_drew ?_ | refine blk_alloc ?_ _)); exact BK166.out) hg (fun e_ => NB166_173.out (Option.some.inj e_))); have n1_ := Aside0.mk (Kd.R_grown1 (by (with_reducible repeat (first | apply Kd.R_alloc | apply Kd.R_drewN | apply Kd.R_drew)); exact HO170.out) rfl hg (Kd.R_ne HO170.out BK173.out (by decide))); have n2_ := Aside0.mk (hbx); have n3_ := Aside0.mk (hbe _ _ (by repeat (first | (with_reducible first | exact HB.out | apply below_alloc | apply pw_below_drewN | apply below_drew1 | refine below_set ?_ GE166.out | refine below_set ?_ GE173.out) | exact HB.out)) GE173.out); clear BK166; clear HO170; clear BK173; clear HB; have BK166 := n0_; have HO170 := n1_; have BK173 := n2_; have HB := n3_; clear n0_ n1_ n2_ n3_; (try clear hbx hg hbe)) | ((with_reducible refine gate_store (t := 45) (p := 2) rfl ?_); refine Arr.storeA ?hg (T := 45) (p := 2) (v := ?vo_w19) ?ho ?hn (g := gb166) (off := 0) ?hx (m := ((.bool false) :: (.slice none 0 0) :: Arr.arL .i8 (Vector.replicate 16 0 : Vector Int 16))) ?hy (t := 45) (pre := []) (old := ((.bool false) :: (.slice none 0 0) :: Arr.arL .i8 (Vector.replicate 16 0 : Vector Int 16))) (show w17.heap[gb166]? = some (.cells (⟨(.bool false) :: (.slice none 0 0) :: Arr.arL .i8 (Vector.replicate 16 0 : Vector Int 16)⟩ : Array Value) 45 (0, 0)) from by (with_reducible repeat (first | refine blk_drewN ?_ _ | refine blk_drew ?_ | refine blk_alloc ?_ _)); exact BK166.out) rfl (by simp [Arr.arL_length]) (n := 18) (by kernel_rfl) (by simp [Arr.arL_length]) (Arr.ones_2 rfl rfl) ?_; (case ho => rfl); (case hg => rfl); (case hn => rfl); (case hx => first | (go_simp; done) | rfl | (go_simp; rfl)); (case hy => first | (go_simp; done) | rfl | (go_simp; rfl)); intro w19 hbx hg hbe; replace hbx : w19.heap[gb166]? = some (.cells (⟨(.bool false) :: (.slice none 0 0) :: Arr.arL .i8 (Vector.replicate 16 0 : Vector Int 16)⟩ : Array Value) 45 (0, 0)) := hbx; have n0_ := Aside0.mk (hbx); have n1_ := Aside0.mk (Kd.R_grown1 (by (with_reducible repeat (first | apply Kd.R_alloc | apply Kd.R_drewN | apply Kd.R_drew)); exact HO170.out) rfl hg (Kd.R_ne HO170.out BK166.out (by decide))); have n2_ := Aside0.mk (blk_grown (g := gb173) (o := .cells (⟨(.bool t167) :: (.slice Ao18 t168.length co18) :: Arr.arL .i8 t171⟩ : Array Value) 45 (0, 0)) (by (with_reducible repeat (first | refine blk_drewN ?_ _ | refine blk_drew ?_ | refine blk_alloc ?_ _)); exact BK173.out) hg (fun e_ => NB173_166.out (Option.some.inj e_))); have n3_ := Aside0.mk (hbe _ _ (by repeat (first | (with_reducible first | exact HB.out | apply below_alloc | apply pw_below_drewN | apply below_drew1 | refine below_set ?_ GE166.out | refine below_set ?_ GE173.out) | exact HB.out)) GE166.out); clear BK166; clear HO170; clear BK173; clear HB; have BK166 := n0_; have HO170 := n1_; have BK173 := n2_; have HB := n3_; clear n0_ n1_ n2_ n3_; (try clear hbx hg hbe)))
    refine bodyPost_ret (results_ct rfl _ _ gb166 45 (⟨(.bool false) :: (.slice none 0 0) :: Arr.arL .i8 (Vector.replicate 16 0 : Vector Int 16)⟩ : Array Value) (0, 0) _ rfl (by (with_reducible repeat (first | refine blk_drewN ?_ _ | refine blk_drew ?_ | refine blk_alloc ?_ _)); exact BK166.out) Tryd.underlying45 rfl (by rw [show (Tryd.prog.info? 45).map (·.size) = some 18 from by kernel_rfl]; simp [Arr.arL_length])) rfl ?_
    exact ⟨_, by first | rfl | (simp [errW_none, errW_some] <;> rfl) | (simp [*, errW_none, errW_some] <;> rfl), by first | exact Kd.R_nil _ _ _ _ _ | exact Kd.N_nil _ _ _ _ _ | exact Kd.V_nil _ _ _ _ _ | exact Kd.Q_nil _ _ _ _ _ | exact Kd.S_nil _ _ _ _ _, by repeat (first | (with_reducible first | exact HB.out | apply below_alloc | apply pw_below_drewN | apply below_drew1 | refine below_set ?_ GE166.out | refine below_set ?_ GE173.out) | exact HB.out)⟩

/-! ### strings_Split: function 54 -/
def strings_Split.f (a0 : ByteArray) (a1 : ByteArray) : Option (List ByteArray) := if a0.size < 4294967281 ∧ 1 ≤ a1.size then some (Lib.splitB a1 0 (Lib.countB a0 a1) a0) else none
set_option maxHeartbeats 8000000 in
set_option maxRecDepth 100000 in
theorem strings_Split.calls (a0 : ByteArray) (a1 : ByteArray) (r : List ByteArray) (w : World) (hT : Tt.TT w) (h : strings_Split.f a0 a1 = some r) :
    Calls Tryd.prog 54 #[.string a0, .string a1] w fun e w' => ∃ v0_ : Value, e = .returned (v0_) ∧ Kd.R Kd.string 9 w' w.heap.size (fun _ => True) v0_ r ∧ Below w.heap.size w w' := by
  unfold strings_Split.f at h
  split at h
  · rename_i hc
    injection h with h
    subst h
    exact Tt.split_call 54 rfl a0 a1 w hT hc.1 hc.2
  · cases h

end Go.Proofs.YtfjmljgbdejghaaDoor.MReadHalf
