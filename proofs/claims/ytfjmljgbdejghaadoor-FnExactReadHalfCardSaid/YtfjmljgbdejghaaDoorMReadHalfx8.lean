-- by a program of this session, for this claim
import Derived.Test.YtfjmljgbdejghaaDoorMReadHalfx0
import Derived.Test.YtfjmljgbdejghaaDoorMReadHalfx5
import Derived.Test.YtfjmljgbdejghaaDoorMReadHalfx6
import Derived.Test.YtfjmljgbdejghaaDoorMReadHalfx7
namespace Go.Proofs.YtfjmljgbdejghaaDoor.MReadHalf
open Go.RowKit Go.Proofs.YtfjmljgbdejghaaDoorW.PrintWords Go.Proofs.YtfjmljgbdejghaaDoorW.PrintLast Go.Proofs.YtfjmljgbdejghaaDoorW.PrintMore
attribute [local go_sem] max2_int min2_int max_two min_two max_three min_three max_four min_four   -- for this text's walks alone
set_option linter.unusedVariables false
set_option linter.unusedSimpArgs false

/-! ### impl_ReadHalf: function 27 -/
mutual
def impl_ReadHalf.j0 : Nat → List ByteArray → Bool → Option (Bool × (List (S62)) × Vector Int 16 × Int)
  | 0, _, _ => none
  | k + 1, x4, x40 => if x40 = true then (some (false, ([] : List (S62)), (Vector.replicate 16 0 : Vector Int 16), 5)) else (if 0 < (x4.length : Int) then (impl_ReadHalf.l0 k x4 0 ((rdOf ByteArray.empty x4 0).toList == ([115, 116, 111, 99, 107] : List UInt8)) (Vector.replicate 16 0 : Vector Int 16)) else (none))
def impl_ReadHalf.l0 : Nat → List ByteArray → Int → Bool → Vector Int 16 → Option (Bool × (List (S62)) × Vector Int 16 × Int)
  | 0, _, _, _, _ => none
  | k + 1, x4, x47, x200000, x200002 => if x47 < 16 then (if 1 < (x4.length : Int) then (if 0 ≤ x47 then (if x47 < ((rdOf ByteArray.empty x4 1).size : Int) then (if (bt (rdOf ByteArray.empty x4 1) x47) < 97 then (some (false, ([] : List (S62)), (Vector.replicate 16 0 : Vector Int 16), 5)) else (if (bt (rdOf ByteArray.empty x4 1) x47) > 103 then (some (false, ([] : List (S62)), (Vector.replicate 16 0 : Vector Int 16), 5)) else (impl_ReadHalf.l0 k x4 (wrap64 (x47 + 1)) x200000 (Arr.vst x200002 x47 (IntKind.i8.wrap ((IntKind.i8.wrap (bt (rdOf ByteArray.empty x4 1) x47)) - 100)))))) else (none)) else (none)) else (none)) else (if 2 ≤ (x4.length : Int) then ((some (x4.drop 2 : List ByteArray)).bind fun y204 => (impl_ReadHalf.l1 k y204 (y204.length : Int) 0 x200000 ([] : List (S62)) x200002)) else (none))
def impl_ReadHalf.l1 : Nat → List ByteArray → Int → Int → Bool → List (S62) → Vector Int 16 → Option (Bool × (List (S62)) × Vector Int 16 × Int)
  | 0, _, _, _, _, _, _ => none
  | k + 1, x77, x78, x79, x200000, x200001, x200002 => if x79 < x78 then (if 0 ≤ x79 then (if x79 < (x77.length : Int) then (if (rdOf ByteArray.empty x77 x79).toList = ([] : List UInt8) then (some (false, ([] : List (S62)), (Vector.replicate 16 0 : Vector Int 16), 5)) else (if 0 < ((rdOf ByteArray.empty x77 x79).size : Int) then ((strings_IndexByte.f (⟨#[100, 115, 108, 118, 99, 109]⟩ : ByteArray) (bt (rdOf ByteArray.empty x77 x79) 0)).bind fun t210 => (if 1 ≤ ((rdOf ByteArray.empty x77 x79).size : Int) then ((impl_number.f k ((rdOf ByteArray.empty x77 x79).extract 1 (rdOf ByteArray.empty x77 x79).size)).bind fun bt211 => (if t210 < 0 then (some (false, ([] : List (S62)), (Vector.replicate 16 0 : Vector Int 16), 5)) else (if bt211.2 = true then (if bt211.1 > 200 then (some (false, ([] : List (S62)), (Vector.replicate 16 0 : Vector Int 16), 5)) else (if x200001.length < 35184372088832 then (impl_ReadHalf.l1 k x77 x78 (wrap64 (x79 + 1)) x200000 (x200001 ++ [(⟨IntKind.i8.wrap (t210), IntKind.i16.wrap (bt211.1)⟩ : S62)]) x200002) else (none))) else (some (false, ([] : List (S62)), (Vector.replicate 16 0 : Vector Int 16), 5))))) else (none))) else (none))) else (none)) else (none)) else ((impl_ValidHalf.f k x200000 x200001 x200002).bind fun t208 => (if t208 = true then (some (x200000, x200001, x200002, 0)) else (some (false, ([] : List (S62)), (Vector.replicate 16 0 : Vector Int 16), 5))))
end
def impl_ReadHalf.f (k : Nat) (a0 : ByteArray) : Option (Bool × (List (S62)) × Vector Int 16 × Int) := (strings_Split.f a0 (⟨#[32]⟩ : ByteArray)).bind fun t191 => (if (t191.length : Int) < 2 then (impl_ReadHalf.j0 k t191 true) else (if (t191.length : Int) > 62 then (impl_ReadHalf.j0 k t191 true) else (if 0 < (t191.length : Int) then (if (rdOf ByteArray.empty t191 0).toList = ([115, 116, 111, 99, 107] : List UInt8) then (if 1 < (t191.length : Int) then (impl_ReadHalf.j0 k t191 (((rdOf ByteArray.empty t191 1).size : Int) != 16)) else (none)) else (if (rdOf ByteArray.empty t191 0).toList = ([102, 111, 105, 108] : List UInt8) then (if 1 < (t191.length : Int) then (impl_ReadHalf.j0 k t191 (((rdOf ByteArray.empty t191 1).size : Int) != 16)) else (none)) else (impl_ReadHalf.j0 k t191 true))) else (none))))
theorem impl_ReadHalf.mono_l : ∀ k, (∀ y0 y1, LeO (impl_ReadHalf.j0 k y0 y1) (impl_ReadHalf.j0 (k + 1) y0 y1)) ∧ (∀ y0 y1 y2 y3, LeO (impl_ReadHalf.l0 k y0 y1 y2 y3) (impl_ReadHalf.l0 (k + 1) y0 y1 y2 y3)) ∧ (∀ y0 y1 y2 y3 y4 y5, LeO (impl_ReadHalf.l1 k y0 y1 y2 y3 y4 y5) (impl_ReadHalf.l1 (k + 1) y0 y1 y2 y3 y4 y5))
  | 0 => ⟨fun _ _ r h => by simp [impl_ReadHalf.j0] at h, fun _ _ _ _ r h => by simp [impl_ReadHalf.l0] at h, fun _ _ _ _ _ _ r h => by simp [impl_ReadHalf.l1] at h⟩
  | k + 1 => by
    obtain ⟨ih0, ih1, ih2⟩ := impl_ReadHalf.mono_l k
    refine ⟨?_, ?_, ?_⟩
    · intro y0 y1
      unfold impl_ReadHalf.j0
      repeat' first
      | (with_reducible exact ih0 _ _)
      | (with_reducible exact ih1 _ _ _ _)
      | (with_reducible exact ih2 _ _ _ _ _ _)
      | (with_reducible exact impl_ValidHalf.mono _ _ _ _)
      | (with_reducible exact impl_number.mono _ _)
      | (with_reducible exact LeO.refl _)
      | (with_reducible exact LeO.none _)
      | (with_reducible refine LeO.ite ?_ ?_)
      | (with_reducible refine LeO.bind ?_ (fun _ => ?_))
      | exact ih0 _ _
      | exact ih1 _ _ _ _
      | exact ih2 _ _ _ _ _ _
      | exact impl_ValidHalf.mono _ _ _ _
      | exact impl_number.mono _ _
      | exact LeO.none _
      | refine LeO.ite ?_ ?_
      | refine LeO.bind ?_ (fun _ => ?_)
    · intro y0 y1 y2 y3
      unfold impl_ReadHalf.l0
      repeat' first
      | (with_reducible exact ih0 _ _)
      | (with_reducible exact ih1 _ _ _ _)
      | (with_reducible exact ih2 _ _ _ _ _ _)
      | (with_reducible exact impl_ValidHalf.mono _ _ _ _)
      | (with_reducible exact impl_number.mono _ _)
      | (with_reducible exact LeO.refl _)
      | (with_reducible exact LeO.none _)
      | (with_reducible refine LeO.ite ?_ ?_)
      | (with_reducible refine LeO.bind ?_ (fun _ => ?_))
      | exact ih0 _ _
      | exact ih1 _ _ _ _
      | exact ih2 _ _ _ _ _ _
      | exact impl_ValidHalf.mono _ _ _ _
      | exact impl_number.mono _ _
      | exact LeO.none _
      | refine LeO.ite ?_ ?_
      | refine LeO.bind ?_ (fun _ => ?_)
    · intro y0 y1 y2 y3 y4 y5
      unfold impl_ReadHalf.l1
      repeat' first
      | (with_reducible exact ih0 _ _)
      | (with_reducible exact ih1 _ _ _ _)
      | (with_reducible exact ih2 _ _ _ _ _ _)
      | (with_reducible exact impl_ValidHalf.mono _ _ _ _)
      | (with_reducible exact impl_number.mono _ _)
      | (with_reducible exact LeO.refl _)
      | (with_reducible exact LeO.none _)
      | (with_reducible refine LeO.ite ?_ ?_)
      | (with_reducible refine LeO.bind ?_ (fun _ => ?_))
      | exact ih0 _ _
      | exact ih1 _ _ _ _
      | exact ih2 _ _ _ _ _ _
      | exact impl_ValidHalf.mono _ _ _ _
      | exact impl_number.mono _ _
      | exact LeO.none _
      | refine LeO.ite ?_ ?_
      | refine LeO.bind ?_ (fun _ => ?_)
theorem impl_ReadHalf.mono : ∀ a0 k, LeO (impl_ReadHalf.f k a0) (impl_ReadHalf.f (k + 1) a0) := by
  intro a0 k
  obtain ⟨ih0, ih1, ih2⟩ := impl_ReadHalf.mono_l k
  unfold impl_ReadHalf.f
  repeat' first
      | (with_reducible exact ih0 _ _)
      | (with_reducible exact ih1 _ _ _ _)
      | (with_reducible exact ih2 _ _ _ _ _ _)
      | (with_reducible exact impl_ValidHalf.mono _ _ _ _)
      | (with_reducible exact impl_number.mono _ _)
      | (with_reducible exact LeO.refl _)
      | (with_reducible exact LeO.none _)
      | (with_reducible refine LeO.ite ?_ ?_)
      | (with_reducible refine LeO.bind ?_ (fun _ => ?_))
      | exact ih0 _ _
      | exact ih1 _ _ _ _
      | exact ih2 _ _ _ _ _ _
      | exact impl_ValidHalf.mono _ _ _ _
      | exact impl_number.mono _ _
      | exact LeO.none _
      | refine LeO.ite ?_ ?_
      | refine LeO.bind ?_ (fun _ => ?_)
theorem add_block (a : Addr) (k : Nat) : (a.add k).block = a.block := by
  unfold Addr.add
  split <;> rfl
theorem row_blk {w : World} {base : Nat} {ok : Nat → Prop} {A : Option Addr} {n c : Nat} {l : List ByteArray} (h : Kd.R Kd.string 9 w base ok (.slice A n c) l) (hp : 0 < l.length) :
    ∃ g cur, A = some ⟨g, 0, none⟩ ∧ w.heap[g]? = some (.cells cur 9 (0, 0)) := by
  obtain ⟨h0, inner, ⟨hl, ho⟩, hr⟩ := h
  rcases ho with ⟨e, h1⟩ | ⟨g, cap, cur, e, hb, hh, h1, h2, h3, h4⟩
  · omega
  · injection e with e1 e2 e3
    exact ⟨g, cur, e1, hh⟩
theorem cell_blk {w w' : World} {g : Nat} {o : Obj} (h : w.heap[g]? = some o) (h' : w'.heap[g]? = some o) {a : Addr} (ha : a.block = g) : w'.cell? a = w.cell? a := by
  simp only [World.cell?, ha, h, h']
theorem blk_cutA {a b : Addr} {g o : Nat} {p : Prop} [Decidable p] {m : Nat} (h : some b = (if p then some a else (some a : Option Addr).map (·.add m))) (ha : a = ⟨g, o, none⟩) (k : Nat) : (b.add k).block = g := by
  subst ha
  split at h
  · cases h
    rw [add_block]
  · cases h
    rw [add_block, add_block]
set_option maxHeartbeats 8000000 in
set_option maxRecDepth 100000 in
theorem impl_ReadHalf.calls (k : Nat) (a0 : ByteArray) (r1 : Bool) (r2 : List (S62)) (r3 : Vector Int 16) (r4 : Int) (w : World) (hT : Tt.TT w) (h : impl_ReadHalf.f k a0 = some (r1, r2, r3, r4)) :
    Calls Tryd.prog 27 #[.string a0] w fun e w' => ∃ v1_ : Value, e = .returned (.tuple #[.agg (⟨(.bool r1) :: (v1_) :: Arr.arL .i8 r3⟩ : Array Value), .int .i64 r4]) ∧ Kd.R k62 62 w' w.heap.size (fun _ => True) v1_ r2 ∧ Below w.heap.size w w' := by
  have hu45 := Tryd.underlying45
  have hu62 := Tryd.underlying62
  have HB := Aside0.mk (Below.refl w.heap.size w)
  have H : ((strings_Split.f a0 (⟨#[32]⟩ : ByteArray)).bind fun t191 => (if (t191.length : Int) < 2 then (impl_ReadHalf.j0 k t191 true) else (if (t191.length : Int) > 62 then (impl_ReadHalf.j0 k t191 true) else (if 0 < (t191.length : Int) then (if (rdOf ByteArray.empty t191 0).toList = ([115, 116, 111, 99, 107] : List UInt8) then (if 1 < (t191.length : Int) then (impl_ReadHalf.j0 k t191 (((rdOf ByteArray.empty t191 1).size : Int) != 16)) else (none)) else (if (rdOf ByteArray.empty t191 0).toList = ([102, 111, 105, 108] : List UInt8) then (if 1 < (t191.length : Int) then (impl_ReadHalf.j0 k t191 (((rdOf ByteArray.empty t191 1).size : Int) != 16)) else (none)) else (impl_ReadHalf.j0 k t191 true))) else (none))))) = some (r1, r2, r3, r4) := h
  clear h
  replace H := Option.bind_eq_some_iff.mp H
  obtain ⟨t191, A20, H⟩ := H
  replace H : (if (t191.length : Int) < 2 then (impl_ReadHalf.j0 k t191 true) else (if (t191.length : Int) > 62 then (impl_ReadHalf.j0 k t191 true) else (if 0 < (t191.length : Int) then (if (rdOf ByteArray.empty t191 0).toList = ([115, 116, 111, 99, 107] : List UInt8) then (if 1 < (t191.length : Int) then (impl_ReadHalf.j0 k t191 (((rdOf ByteArray.empty t191 1).size : Int) != 16)) else (none)) else (if (rdOf ByteArray.empty t191 0).toList = ([102, 111, 105, 108] : List UInt8) then (if 1 < (t191.length : Int) then (impl_ReadHalf.j0 k t191 (((rdOf ByteArray.empty t191 1).size : Int) != 16)) else (none)) else (impl_ReadHalf.j0 k t191 true))) else (none)))) = some (r1, r2, r3, r4) := H
  have A2 := Aside0.mk A20
  clear A20
  have HC3 := Aside0.mk H
  clear H
  go_enter Tryd.func27, Tryd.ntmps27
  go_upto_region 2 with (first | ((with_reducible refine gate_dst (N := 2) rfl ?_); (try (refine gate_guard (by rfl) ?_; dsimp only)); refine box_event ?hg (N := 2) ?hd (cs := (⟨(.bool false) :: (.slice none 0 0) :: Arr.arL .i8 (Vector.replicate 16 0 : Vector Int 16)⟩ : Array Value)) (t := 45) ?hr ?_; (case hd => rfl); (case hg => rfl); (case hr => first | (go_simp; done) | (go_simp; rfl)); intro gb190 hg w4 hbox hb; have n0_ := Aside0.mk (below_step (by repeat (first | (with_reducible first | exact HB.out | apply below_alloc | apply pw_below_drewN | apply below_drew1) | exact HB.out)) hb); have n1_ := Aside0.mk (hbox); have n2_ := Aside0.mk ((by rw [hg]; exact (below_size (by repeat (first | (with_reducible first | exact HB.out | apply below_alloc | apply pw_below_drewN | apply below_drew1) | exact HB.out))) : w.heap.size ≤ gb190)); have n3_ := Aside0.mk ((by rw [hg]; exact (below_size (by repeat (first | (with_reducible first | exact HB.out | apply below_alloc | apply pw_below_drewN | apply below_drew1) | exact HB.out))) : w.heap.size ≤ gb190)); clear HB; have HB := n0_; have BK190 := n1_; have GW190 := n2_; have GE190 := n3_; clear n0_ n1_ n2_ n3_; clear hb hbox hg) | ((with_reducible refine gate_callee (f := 54) rfl ?_); refine goesL_ (some 13) rfl rfl Tryd.func54 (by kernel_rfl) rfl #[.string a0, .string (⟨#[32]⟩ : ByteArray)] rfl (by (try simp only [List.map_toArray, List.map_cons, List.map_nil]); first | done | (go_simp; done) | rfl | (simp only [List.length_drop, List.length_take]; rfl)) ?_; (with_reducible refine (strings_Split.calls a0 (⟨#[32]⟩ : ByteArray) t191 _ ?side1 A2.out).mono ?_); (case side1 => first | exact hT | exact Tt.TT_on hT (by repeat (first | (with_reducible first | exact HB.out | apply below_alloc | apply pw_below_drewN | apply below_drew1 | refine below_set ?_ GE190.out) | exact HB.out))); rintro e w5 ⟨v192, rfl, ho0, hb⟩; refine ⟨_, rfl, ?_⟩; have n0_ := Aside0.mk (Kd.R_lower ho0 (below_size (by repeat (first | (with_reducible first | exact HB.out | apply below_alloc | apply pw_below_drewN | apply below_drew1 | refine below_set ?_ GE190.out) | exact HB.out)))); have n1_ := Aside0.mk (blk_below (g := gb190) (o := .cells (⟨(.bool false) :: (.slice none 0 0) :: Arr.arL .i8 (Vector.replicate 16 0 : Vector Int 16)⟩ : Array Value) 45 (0, 0)) (by (with_reducible repeat (first | refine blk_drewN ?_ _ | refine blk_drew ?_ | refine blk_alloc ?_ _)); exact BK190.out) hb); have n2_ := Aside0.mk (below_step (by repeat (first | (with_reducible first | exact HB.out | apply below_alloc | apply pw_below_drewN | apply below_drew1 | refine below_set ?_ GE190.out) | exact HB.out)) hb); clear BK190; clear HB; have HO193 := n0_; have BK190 := n1_; have HB := n2_; clear n0_ n1_ n2_; (try clear hb); (try clear hb2); (try clear hk); (try clear hi); (try clear ho0)))
  (try simp only [Act.put, List.setIfInBounds_toArray, List.set_cons_zero, List.set_cons_succ])
  go_cut [40] (fun v40 wc => ∃ (kq : Nat) (x40_2 : Bool), v40 = .bool x40_2 ∧ Aside0 (impl_ReadHalf.j0 kq t191 x40_2 = some (r1, r2, r3, r4)) ∧ Aside0 (kq ≤ k) ∧ Aside0 (Kd.R Kd.string 9 wc w.heap.size (fun _ => True) v192 t191) ∧ Aside0 (wc.heap[gb190]? = some (.cells (⟨(.bool false) :: ((.slice none 0 0)) :: Arr.arL .i8 (Vector.replicate 16 0 : Vector Int 16)⟩ : Array Value) 45 (0, 0))) ∧ Aside0 (Below w.heap.size w wc))
  case first =>
    have H := HC3.out
    clear HC3
    by_cases c6 : (t191.length : Int) < 2
    · rw [if_pos c6] at H
      have c6b0 : decide ((t191.length : Int) < 2) = true := decide_eq_true c6
      have c6b1 : decide (t191.length < 2) = true := decide_eq_true (by omega)
      clear c6
      (first | rw [c6b0] | (simp only [i64_w, i32_w]; rw [c6b0]) | skip)
      have H' := Aside0.mk H
      clear H
      obtain ⟨Ao7, co7, eo7⟩ := Kd.R_slice HO193.out
      subst eo7
      go_wp2
      go_meet
      case rel => exact ⟨_, (true), (by first | rfl | (simp; done) | (simp [*]; done)), H', ⟨by first | omega | exact Nat.le_refl _⟩, ⟨by (with_reducible repeat (first | apply Kd.R_alloc | apply Kd.R_drewN | apply Kd.R_drew)); exact HO193.out⟩, ⟨by (with_reducible repeat (first | refine blk_drewN ?_ _ | refine blk_drew ?_ | refine blk_alloc ?_ _)); exact BK190.out⟩, ⟨by repeat (first | (with_reducible first | exact HB.out | apply below_alloc | apply pw_below_drewN | apply below_drew1 | refine below_set ?_ GE190.out) | exact HB.out)⟩⟩
    · rw [if_neg c6] at H
      have c6b0 : decide ((t191.length : Int) < 2) = false := decide_eq_false c6
      have c6b1 : decide (t191.length < 2) = false := decide_eq_false (by omega)
      clear c6
      (first | rw [c6b0] | (simp only [i64_w, i32_w]; rw [c6b0]) | skip)
      by_cases c8 : (t191.length : Int) > 62
      · rw [if_pos c8] at H
        have c8b0 : decide (62 < (t191.length : Int)) = true := decide_eq_true c8
        have c8b1 : decide (62 < t191.length) = true := decide_eq_true (by omega)
        clear c8
        have H' := Aside0.mk H
        clear H
        obtain ⟨Ao9, co9, eo9⟩ := Kd.R_slice HO193.out
        subst eo9
        go_wp2
        go_meet
        case rel => exact ⟨_, (true), (by first | rfl | (simp; done) | (simp [*]; done)), H', ⟨by first | omega | exact Nat.le_refl _⟩, ⟨by (with_reducible repeat (first | apply Kd.R_alloc | apply Kd.R_drewN | apply Kd.R_drew)); exact HO193.out⟩, ⟨by (with_reducible repeat (first | refine blk_drewN ?_ _ | refine blk_drew ?_ | refine blk_alloc ?_ _)); exact BK190.out⟩, ⟨by repeat (first | (with_reducible first | exact HB.out | apply below_alloc | apply pw_below_drewN | apply below_drew1 | refine below_set ?_ GE190.out) | exact HB.out)⟩⟩
      · rw [if_neg c8] at H
        have c8b0 : decide (62 < (t191.length : Int)) = false := decide_eq_false c8
        have c8b1 : decide (62 < t191.length) = false := decide_eq_false (by omega)
        clear c8
        by_cases c10 : 0 < (t191.length : Int)
        · rw [if_pos c10] at H
          have c10b0 : decide (0 < (t191.length : Int)) = true := decide_eq_true c10
          have c10b1 : decide (0 < t191.length) = true := decide_eq_true (by omega)
          clear c10
          by_cases c11 : (rdOf ByteArray.empty t191 0).toList = ([115, 116, 111, 99, 107] : List UInt8)
          · rw [if_pos c11] at H
            have c11b0 : ((rdOf ByteArray.empty t191 0).toList == ([115, 116, 111, 99, 107] : List UInt8)) = true := beq_iff_eq.mpr c11
            have c11b1 : ((rdOf ByteArray.empty t191 0).toList != ([115, 116, 111, 99, 107] : List UInt8)) = false := bne_eq_false_iff_eq.mpr c11
            clear c11
            by_cases c12 : 1 < (t191.length : Int)
            · rw [if_pos c12] at H
              have c12b0 : decide (1 < (t191.length : Int)) = true := decide_eq_true c12
              have c12b1 : decide (1 < t191.length) = true := decide_eq_true (by omega)
              clear c12
              have H' := Aside0.mk H
              clear H
              obtain ⟨Ao13, co13, eo13⟩ := Kd.R_slice HO193.out
              subst eo13
              have p194 : 0 ≤ (0 : Int) := (by omega)
              have q194 : 0 < (t191.length : Int) := of_decide_eq_true (by first | (with_reducible assumption) | assumption)
              obtain ⟨ad194, e194, hx194_0⟩ := Kd.at_string (Kd.R_reads' HO193.out).2.2 0 p194 q194
              cases e194
              have qi194 : (0 < t191.length) = True := eq_true (by omega)
              (try rw [show ((0 : Int)).toNat = 0 from rfl] at hx194_0)
              (try rw [Addr.add_zero'] at hx194_0)
              replace p194 := eq_true p194
              replace q194 := eq_true q194
              have p195 : 0 ≤ (1 : Int) := (by omega)
              have q195 : 1 < (t191.length : Int) := of_decide_eq_true (by first | (with_reducible assumption) | assumption)
              obtain ⟨ad195, e195, hx195_0⟩ := Kd.at_string (Kd.R_reads' HO193.out).2.2 1 p195 q195
              obtain rfl : ad194 = ad195 := (by injection e195)
              (try simp only [show (1 : Int).toNat = 1 from rfl, Nat.reduceMul, Nat.reduceEqDiff, Go.Addr.add, ↓reduceIte] at hx195_0)
              have qi195 : (1 < t191.length) = True := eq_true (by omega)
              (try rw [show ((1 : Int)).toNat = 1 from rfl] at hx195_0)
              replace p195 := eq_true p195
              replace q195 := eq_true q195
              go_wp2
              go_meet
              case rel => exact ⟨_, ((((rdOf ByteArray.empty t191 1).size : Int) != 16)), (by first | rfl | (simp; done) | (simp [*]; done)), H', ⟨by first | omega | exact Nat.le_refl _⟩, ⟨by (with_reducible repeat (first | apply Kd.R_alloc | apply Kd.R_drewN | apply Kd.R_drew)); exact HO193.out⟩, ⟨by (with_reducible repeat (first | refine blk_drewN ?_ _ | refine blk_drew ?_ | refine blk_alloc ?_ _)); exact BK190.out⟩, ⟨by repeat (first | (with_reducible first | exact HB.out | apply below_alloc | apply pw_below_drewN | apply below_drew1 | refine below_set ?_ GE190.out) | exact HB.out)⟩⟩
            · rw [if_neg c12] at H
              exact absurd H (by simp)
          · rw [if_neg c11] at H
            have c11b0 : ((rdOf ByteArray.empty t191 0).toList == ([115, 116, 111, 99, 107] : List UInt8)) = false := beq_eq_false_iff_ne.mpr c11
            have c11b1 : ((rdOf ByteArray.empty t191 0).toList != ([115, 116, 111, 99, 107] : List UInt8)) = true := bne_iff_ne.mpr c11
            by_cases c14 : (rdOf ByteArray.empty t191 0).toList = ([102, 111, 105, 108] : List UInt8)
            · rw [if_pos c14] at H
              have c14b0 : ((rdOf ByteArray.empty t191 0).toList == ([102, 111, 105, 108] : List UInt8)) = true := beq_iff_eq.mpr c14
              have c14b1 : ((rdOf ByteArray.empty t191 0).toList != ([102, 111, 105, 108] : List UInt8)) = false := bne_eq_false_iff_eq.mpr c14
              clear c14
              by_cases c15 : 1 < (t191.length : Int)
              · rw [if_pos c15] at H
                have c15b0 : decide (1 < (t191.length : Int)) = true := decide_eq_true c15
                have c15b1 : decide (1 < t191.length) = true := decide_eq_true (by omega)
                clear c15
                have H' := Aside0.mk H
                clear H
                obtain ⟨Ao16, co16, eo16⟩ := Kd.R_slice HO193.out
                subst eo16
                have p194 : 0 ≤ (0 : Int) := (by omega)
                have q194 : 0 < (t191.length : Int) := of_decide_eq_true (by first | (with_reducible assumption) | assumption)
                obtain ⟨ad194, e194, hx194_0⟩ := Kd.at_string (Kd.R_reads' HO193.out).2.2 0 p194 q194
                cases e194
                have qi194 : (0 < t191.length) = True := eq_true (by omega)
                (try rw [show ((0 : Int)).toNat = 0 from rfl] at hx194_0)
                (try rw [Addr.add_zero'] at hx194_0)
                replace p194 := eq_true p194
                replace q194 := eq_true q194
                have p196 : 0 ≤ (0 : Int) := (by omega)
                have q196 : 0 < (t191.length : Int) := of_decide_eq_true (by first | (with_reducible assumption) | assumption)
                obtain ⟨ad196, e196, hx196_0⟩ := Kd.at_string (Kd.R_reads' HO193.out).2.2 0 p196 q196
                obtain rfl : ad194 = ad196 := (by injection e196)
                have qi196 : (0 < t191.length) = True := eq_true (by omega)
                (try rw [show ((0 : Int)).toNat = 0 from rfl] at hx196_0)
                (try rw [Addr.add_zero'] at hx196_0)
                replace p196 := eq_true p196
                replace q196 := eq_true q196
                have p197 : 0 ≤ (1 : Int) := (by omega)
                have q197 : 1 < (t191.length : Int) := of_decide_eq_true (by first | (with_reducible assumption) | assumption)
                obtain ⟨ad197, e197, hx197_0⟩ := Kd.at_string (Kd.R_reads' HO193.out).2.2 1 p197 q197
                obtain rfl : ad194 = ad197 := (by injection e197)
                (try simp only [show (1 : Int).toNat = 1 from rfl, Nat.reduceMul, Nat.reduceEqDiff, Go.Addr.add, ↓reduceIte] at hx197_0)
                have qi197 : (1 < t191.length) = True := eq_true (by omega)
                (try rw [show ((1 : Int)).toNat = 1 from rfl] at hx197_0)
                replace p197 := eq_true p197
                replace q197 := eq_true q197
                go_wp2
                go_meet
                case rel => exact ⟨_, ((((rdOf ByteArray.empty t191 1).size : Int) != 16)), (by first | rfl | (simp; done) | (simp [*]; done)), H', ⟨by first | omega | exact Nat.le_refl _⟩, ⟨by (with_reducible repeat (first | apply Kd.R_alloc | apply Kd.R_drewN | apply Kd.R_drew)); exact HO193.out⟩, ⟨by (with_reducible repeat (first | refine blk_drewN ?_ _ | refine blk_drew ?_ | refine blk_alloc ?_ _)); exact BK190.out⟩, ⟨by repeat (first | (with_reducible first | exact HB.out | apply below_alloc | apply pw_below_drewN | apply below_drew1 | refine below_set ?_ GE190.out) | exact HB.out)⟩⟩
              · rw [if_neg c15] at H
                exact absurd H (by simp)
            · rw [if_neg c14] at H
              have c14b0 : ((rdOf ByteArray.empty t191 0).toList == ([102, 111, 105, 108] : List UInt8)) = false := beq_eq_false_iff_ne.mpr c14
              have c14b1 : ((rdOf ByteArray.empty t191 0).toList != ([102, 111, 105, 108] : List UInt8)) = true := bne_iff_ne.mpr c14
              have H' := Aside0.mk H
              clear H
              obtain ⟨Ao17, co17, eo17⟩ := Kd.R_slice HO193.out
              subst eo17
              have p194 : 0 ≤ (0 : Int) := (by omega)
              have q194 : 0 < (t191.length : Int) := of_decide_eq_true (by first | (with_reducible assumption) | assumption)
              obtain ⟨ad194, e194, hx194_0⟩ := Kd.at_string (Kd.R_reads' HO193.out).2.2 0 p194 q194
              cases e194
              have qi194 : (0 < t191.length) = True := eq_true (by omega)
              (try rw [show ((0 : Int)).toNat = 0 from rfl] at hx194_0)
              (try rw [Addr.add_zero'] at hx194_0)
              replace p194 := eq_true p194
              replace q194 := eq_true q194
              have p196 : 0 ≤ (0 : Int) := (by omega)
              have q196 : 0 < (t191.length : Int) := of_decide_eq_true (by first | (with_reducible assumption) | assumption)
              obtain ⟨ad196, e196, hx196_0⟩ := Kd.at_string (Kd.R_reads' HO193.out).2.2 0 p196 q196
              obtain rfl : ad194 = ad196 := (by injection e196)
              have qi196 : (0 < t191.length) = True := eq_true (by omega)
              (try rw [show ((0 : Int)).toNat = 0 from rfl] at hx196_0)
              (try rw [Addr.add_zero'] at hx196_0)
              replace p196 := eq_true p196
              replace q196 := eq_true q196
              go_wp2
              go_meet
              case rel => exact ⟨_, (true), (by first | rfl | (simp; done) | (simp [*]; done)), H', ⟨by first | omega | exact Nat.le_refl _⟩, ⟨by (with_reducible repeat (first | apply Kd.R_alloc | apply Kd.R_drewN | apply Kd.R_drew)); exact HO193.out⟩, ⟨by (with_reducible repeat (first | refine blk_drewN ?_ _ | refine blk_drew ?_ | refine blk_alloc ?_ _)); exact BK190.out⟩, ⟨by repeat (first | (with_reducible first | exact HB.out | apply below_alloc | apply pw_below_drewN | apply below_drew1 | refine below_set ?_ GE190.out) | exact HB.out)⟩⟩
        · rw [if_neg c10] at H
          exact absurd H (by simp)
  case rest =>
    clear HC3
    try clear c1
    try clear p1
    try clear q1
    try clear hx1
    try clear qi1
    try clear c2
    try clear p2
    try clear c5
    try clear c6
    try clear c6b0
    try clear c6b1
    try clear c8
    try clear c8b0
    try clear c8b1
    try clear c10
    try clear c10b0
    try clear c10b1
    try clear c11
    try clear c11b0
    try clear c11b1
    try clear c12
    try clear c12b0
    try clear c12b1
    try clear c14
    try clear c14b0
    try clear c14b1
    try clear c15
    try clear c15b0
    try clear c15b1
    try clear hx194_0
    try clear hx195_0
    try clear hx196_0
    try clear hx197_0
    try clear p194
    try clear p195
    try clear p196
    try clear p197
    try clear q194
    try clear q195
    try clear q196
    try clear q197
    obtain ⟨kq, x40_2, rfl, HA, HJ2, HO_4, BK190, HB⟩ := hcut
    cases kq with
    | zero => exact absurd HA.out (by simp [impl_ReadHalf.j0])
    | succ kj2 =>
      have H := HA.out
      clear HA
      simp only [impl_ReadHalf.j0] at H
      by_cases c18 : x40_2 = true
      · subst c18
        have H1 : (some (false, ([] : List (S62)), (Vector.replicate 16 0 : Vector Int 16), 5)) = some (r1, r2, r3, r4) := by rw [if_pos rfl] at H; exact H
        clear H
        have H := H1
        clear H1
        simp only [Option.some.injEq, Prod.mk.injEq] at H
        obtain ⟨rfl, rfl, rfl, rfl⟩ := H
        go_wp2_with (first | ((with_reducible refine gate_store (t := 45) (p := 2) rfl ?_); refine Arr.storeA ?hg (T := 45) (p := 2) (v := ?vo_w20) ?ho ?hn (g := gb190) (off := 0) ?hx (m := ((.bool false) :: (.slice none 0 0) :: Arr.arL .i8 (Vector.replicate 16 0 : Vector Int 16))) ?hy (t := 45) (pre := []) (old := ((.bool false) :: (.slice none 0 0) :: Arr.arL .i8 (Vector.replicate 16 0 : Vector Int 16))) (show wc.heap[gb190]? = some (.cells (⟨(.bool false) :: (.slice none 0 0) :: Arr.arL .i8 (Vector.replicate 16 0 : Vector Int 16)⟩ : Array Value) 45 (0, 0)) from by (with_reducible repeat (first | refine blk_drewN ?_ _ | refine blk_drew ?_ | refine blk_alloc ?_ _)); exact BK190.out) rfl (by simp [Arr.arL_length]) (n := 18) (by kernel_rfl) (by simp [Arr.arL_length]) (Arr.ones_2 rfl rfl) ?_; (case ho => rfl); (case hg => rfl); (case hn => rfl); (case hx => first | (go_simp; done) | rfl | (go_simp; rfl)); (case hy => first | (go_simp; done) | rfl | (go_simp; rfl)); intro w20 hbx hg hbe; replace hbx : w20.heap[gb190]? = some (.cells (⟨(.bool false) :: (.slice none 0 0) :: Arr.arL .i8 (Vector.replicate 16 0 : Vector Int 16)⟩ : Array Value) 45 (0, 0)) := hbx; have n0_ := Aside0.mk (Kd.R_grown1 (by (with_reducible repeat (first | apply Kd.R_alloc | apply Kd.R_drewN | apply Kd.R_drew)); exact HO_4.out) rfl hg (Kd.R_ne HO_4.out BK190.out (by decide))); have n1_ := Aside0.mk (hbx); have n2_ := Aside0.mk (hbe _ _ (by repeat (first | (with_reducible first | exact HB.out | apply below_alloc | apply pw_below_drewN | apply below_drew1 | refine below_set ?_ GE190.out) | exact HB.out)) GE190.out); clear HO_4; clear BK190; clear HB; have HO_4 := n0_; have BK190 := n1_; have HB := n2_; clear n0_ n1_ n2_; (try clear hbx hg hbe)))
        refine bodyPost_ret (results_ct rfl _ _ gb190 45 (⟨(.bool false) :: (.slice none 0 0) :: Arr.arL .i8 (Vector.replicate 16 0 : Vector Int 16)⟩ : Array Value) (0, 0) _ rfl (by (with_reducible repeat (first | refine blk_drewN ?_ _ | refine blk_drew ?_ | refine blk_alloc ?_ _)); exact BK190.out) Tryd.underlying45 rfl (by rw [show (Tryd.prog.info? 45).map (·.size) = some 18 from by kernel_rfl]; simp [Arr.arL_length])) rfl ?_
        exact ⟨_, by first | rfl | (simp [errW_none, errW_some] <;> rfl) | (simp [*, errW_none, errW_some] <;> rfl), by first | exact Kd.R_nil _ _ _ _ _ | exact Kd.N_nil _ _ _ _ _ | exact Kd.V_nil _ _ _ _ _ | exact Kd.Q_nil _ _ _ _ _ | exact Kd.S_nil _ _ _ _ _, by repeat (first | (with_reducible first | exact HB.out | apply below_alloc | apply pw_below_drewN | apply below_drew1 | refine below_set ?_ GE190.out) | exact HB.out)⟩
      · replace c18 := Bool.eq_false_iff.mpr c18
        subst c18
        have H1 : (if 0 < (t191.length : Int) then (impl_ReadHalf.l0 kj2 t191 0 ((rdOf ByteArray.empty t191 0).toList == ([115, 116, 111, 99, 107] : List UInt8)) (Vector.replicate 16 0 : Vector Int 16)) else (none)) = some (r1, r2, r3, r4) := by rw [if_neg (show ¬ (false = true) by decide)] at H; exact H
        clear H
        have H := H1
        clear H1
        by_cases c21 : 0 < (t191.length : Int)
        · rw [if_pos c21] at H
          have c21b0 : decide (0 < (t191.length : Int)) = true := decide_eq_true c21
          have c21b1 : decide (0 < t191.length) = true := decide_eq_true (by omega)
          clear c21
          have H' := Aside0.mk H
          clear H
          obtain ⟨Ao23, co23, eo23⟩ := Kd.R_slice HO_4.out
          subst eo23
          have p198 : 0 ≤ (0 : Int) := (by omega)
          have q198 : 0 < (t191.length : Int) := of_decide_eq_true (by first | (with_reducible assumption) | assumption)
          obtain ⟨ad198, e198, hx198_0⟩ := Kd.at_string (Kd.R_reads' HO_4.out).2.2 0 p198 q198
          cases e198
          have qi198 : (0 < t191.length) = True := eq_true (by omega)
          (try rw [show ((0 : Int)).toNat = 0 from rfl] at hx198_0)
          (try rw [Addr.add_zero'] at hx198_0)
          replace p198 := eq_true p198
          replace q198 := eq_true q198
          go_wp2_with (first | ((with_reducible refine gate_dst (N := 5) rfl ?_); (try (refine gate_guard (by rfl) ?_; dsimp only)); refine box_event ?hg (N := 5) ?hd (cs := (⟨(.bool false) :: (.slice none 0 0) :: Arr.arL .i8 (Vector.replicate 16 0 : Vector Int 16)⟩ : Array Value)) (t := 45) ?hr ?_; (case hd => rfl); (case hg => rfl); (case hr => first | (go_simp; done) | (go_simp; rfl)); intro gb199 hg w24 hbox hb; have n0_ := Aside0.mk (Kd.R_below (by (with_reducible repeat (first | apply Kd.R_alloc | apply Kd.R_drewN | apply Kd.R_drew)); exact HO_4.out) hb); have n1_ := Aside0.mk (blk_below (g := gb190) (o := .cells (⟨(.bool false) :: (.slice none 0 0) :: Arr.arL .i8 (Vector.replicate 16 0 : Vector Int 16)⟩ : Array Value) 45 (0, 0)) (by (with_reducible repeat (first | refine blk_drewN ?_ _ | refine blk_drew ?_ | refine blk_alloc ?_ _)); exact BK190.out) hb); have n2_ := Aside0.mk (below_step (by repeat (first | (with_reducible first | exact HB.out | apply below_alloc | apply pw_below_drewN | apply below_drew1 | refine below_set ?_ GE190.out) | exact HB.out)) hb); have n3_ := Aside0.mk (hbox); have n4_ := Aside0.mk ((by rw [hg]; exact (below_size (by repeat (first | (with_reducible first | exact HB.out | apply below_alloc | apply pw_below_drewN | apply below_drew1 | refine below_set ?_ GE190.out) | exact HB.out))) : w.heap.size ≤ gb199)); have n5_ := Aside0.mk ((by rw [hg]; exact (below_size (by repeat (first | (with_reducible first | exact HB.out | apply below_alloc | apply pw_below_drewN | apply below_drew1 | refine below_set ?_ GE190.out) | exact HB.out))) : w.heap.size ≤ gb199)); have n6_ := Aside0.mk ((by rw [hg]; exact Nat.ne_of_lt (blk_lt (g := gb190) (o := .cells (⟨(.bool false) :: (.slice none 0 0) :: Arr.arL .i8 (Vector.replicate 16 0 : Vector Int 16)⟩ : Array Value) 45 (0, 0)) (by (with_reducible repeat (first | refine blk_drewN ?_ _ | refine blk_drew ?_ | refine blk_alloc ?_ _)); exact BK190.out)) : gb190 ≠ gb199)); have n7_ := Aside0.mk ((by rw [hg]; exact Nat.ne_of_gt (blk_lt (g := gb190) (o := .cells (⟨(.bool false) :: (.slice none 0 0) :: Arr.arL .i8 (Vector.replicate 16 0 : Vector Int 16)⟩ : Array Value) 45 (0, 0)) (by (with_reducible repeat (first | refine blk_drewN ?_ _ | refine blk_drew ?_ | refine blk_alloc ?_ _)); exact BK190.out)) : gb199 ≠ gb190)); clear HO_4; clear BK190; clear HB; have HO_4 := n0_; have BK190 := n1_; have HB := n2_; have BK199 := n3_; have GW199 := n4_; have GE199 := n5_; have NB190_199 := n6_; have NB199_190 := n7_; clear n0_ n1_ n2_ n3_ n4_ n5_ n6_ n7_; clear hb hbox hg) | ((with_reducible refine gate_store (t := 45) (p := 5) rfl ?_); refine Arr.storeA ?hg (T := 45) (p := 5) (v := ?vo_w25) ?ho ?hn (g := gb199) (off := 0) ?hx (m := ((.bool ((rdOf ByteArray.empty t191 0).toList == ([115, 116, 111, 99, 107] : List UInt8))) :: (.slice none 0 0) :: Arr.arL .i8 (Vector.replicate 16 0 : Vector Int 16))) ?hy (t := 45) (pre := []) (old := ((.bool false) :: (.slice none 0 0) :: Arr.arL .i8 (Vector.replicate 16 0 : Vector Int 16))) (show w24.heap[gb199]? = some (.cells (⟨(.bool false) :: (.slice none 0 0) :: Arr.arL .i8 (Vector.replicate 16 0 : Vector Int 16)⟩ : Array Value) 45 (0, 0)) from by (with_reducible repeat (first | refine blk_drewN ?_ _ | refine blk_drew ?_ | refine blk_alloc ?_ _)); exact BK199.out) rfl (by simp [Arr.arL_length]) (n := 18) (by kernel_rfl) (by simp [Arr.arL_length]) (Arr.ones_2 rfl rfl) ?_; (case ho => rfl); (case hg => rfl); (case hn => rfl); (case hx => first | (go_simp; done) | rfl | (go_simp; rfl)); (case hy => first | (go_simp; done) | rfl | (go_simp; rfl)); intro w25 hbx hg hbe; replace hbx : w25.heap[gb199]? = some (.cells (⟨(.bool ((rdOf ByteArray.empty t191 0).toList == ([115, 116, 111, 99, 107] : List UInt8))) :: (.slice none 0 0) :: Arr.arL .i8 (Vector.replicate 16 0 : Vector Int 16)⟩ : Array Value) 45 (0, 0)) := hbx; have n0_ := Aside0.mk (Kd.R_grown1 (by (with_reducible repeat (first | apply Kd.R_alloc | apply Kd.R_drewN | apply Kd.R_drew)); exact HO_4.out) rfl hg (Kd.R_ne HO_4.out BK199.out (by decide))); have n1_ := Aside0.mk (blk_grown (g := gb190) (o := .cells (⟨(.bool false) :: (.slice none 0 0) :: Arr.arL .i8 (Vector.replicate 16 0 : Vector Int 16)⟩ : Array Value) 45 (0, 0)) (by (with_reducible repeat (first | refine blk_drewN ?_ _ | refine blk_drew ?_ | refine blk_alloc ?_ _)); exact BK190.out) hg (fun e_ => NB190_199.out (Option.some.inj e_))); have n2_ := Aside0.mk (hbx); have n3_ := Aside0.mk (hbe _ _ (by repeat (first | (with_reducible first | exact HB.out | apply below_alloc | apply pw_below_drewN | apply below_drew1 | refine below_set ?_ GE190.out | refine below_set ?_ GE199.out) | exact HB.out)) GE199.out); clear HO_4; clear BK190; clear BK199; clear HB; have HO_4 := n0_; have BK190 := n1_; have BK199 := n2_; have HB := n3_; clear n0_ n1_ n2_ n3_; (try clear hbx hg hbe)))
          go_loopg [47] kj2 (fun kq v47 w' => ∃ (x47_2 : Int) (x191000_2 : Bool) (x191002_2 : Vector Int 16) (x200002_2 : Vector Int 16), v47 = .int .i64 x47_2 ∧ Aside0 (impl_ReadHalf.l0 kq t191 x47_2 ((rdOf ByteArray.empty t191 0).toList == ([115, 116, 111, 99, 107] : List UInt8)) x200002_2 = some (r1, r2, r3, r4)) ∧ Aside0 (kq ≤ kj2) ∧ Aside0 (Kd.R Kd.string 9 w' w.heap.size (fun _ => True) (.slice (some ad198) t191.length co23) t191) ∧ Aside0 (w'.heap[gb190]? = some (.cells (⟨(.bool x191000_2) :: ((.slice none 0 0)) :: Arr.arL .i8 x191002_2⟩ : Array Value) 45 (0, 0))) ∧ Aside0 (w'.heap[gb199]? = some (.cells (⟨(.bool ((rdOf ByteArray.empty t191 0).toList == ([115, 116, 111, 99, 107] : List UInt8))) :: ((.slice none 0 0)) :: Arr.arL .i8 x200002_2⟩ : Array Value) 45 (0, 0))) ∧ Aside0 (Below w.heap.size w w'))
          case atStart => exact ⟨(0), (false), ((Vector.replicate 16 0 : Vector Int 16)), ((Vector.replicate 16 0 : Vector Int 16)), (by first | rfl | (simp; done) | (simp [*]; done)), H', ⟨Nat.le_refl _⟩, ⟨by (with_reducible repeat (first | apply Kd.R_alloc | apply Kd.R_drewN | apply Kd.R_drew)); exact HO_4.out⟩, ⟨by (with_reducible repeat (first | refine blk_drewN ?_ _ | refine blk_drew ?_ | refine blk_alloc ?_ _)); exact BK190.out⟩, ⟨by (with_reducible repeat (first | refine blk_drewN ?_ _ | refine blk_drew ?_ | refine blk_alloc ?_ _)); exact BK199.out⟩, ⟨by repeat (first | (with_reducible first | exact HB.out | apply below_alloc | apply pw_below_drewN | apply below_drew1 | refine below_set ?_ GE190.out | refine below_set ?_ GE199.out) | exact HB.out)⟩⟩
          case round =>
            clear H'
            try clear c1
            try clear p1
            try clear q1
            try clear hx1
            try clear qi1
            try clear c2
            try clear p2
            try clear c5
            try clear c6
            try clear c6b0
            try clear c6b1
            try clear c8
            try clear c8b0
            try clear c8b1
            try clear c10
            try clear c10b0
            try clear c10b1
            try clear c11
            try clear c11b0
            try clear c11b1
            try clear c12
            try clear c12b0
            try clear c12b1
            try clear c14
            try clear c14b0
            try clear c14b1
            try clear c15
            try clear c15b0
            try clear c15b1
            try clear c18
            try clear p19
            try clear q19
            try clear hx19
            try clear qi19
            try clear c21
            try clear c21b0
            try clear c21b1
            try clear hx194_0
            try clear hx195_0
            try clear hx196_0
            try clear hx197_0
            try clear hx198_0
            try clear p1
            try clear p194
            try clear p195
            try clear p196
            try clear p197
            try clear p198
            try clear p2
            try clear q1
            try clear q194
            try clear q195
            try clear q196
            try clear q197
            try clear q198
            obtain ⟨x47_2, x191000_2, x191002_2, x200002_2, rfl, HA, HK2, HO_4, BK190, BK199, HB⟩ := hrel
            cases gk with
            | zero => exact absurd HA.out (by simp [impl_ReadHalf.l0])
            | succ k2 =>
              have H := HA.out
              clear HA
              simp only [impl_ReadHalf.l0] at H
              by_cases c26 : x47_2 < 16
              · rw [if_pos c26] at H
                have c26b0 : decide (x47_2 < 16) = true := decide_eq_true c26
                clear c26
                by_cases c27 : 1 < (t191.length : Int)
                · rw [if_pos c27] at H
                  have c27b0 : decide (1 < (t191.length : Int)) = true := decide_eq_true c27
                  have c27b1 : decide (1 < t191.length) = true := decide_eq_true (by omega)
                  clear c27
                  by_cases c28 : 0 ≤ x47_2
                  · rw [if_pos c28] at H
                    have c28b0 : decide (0 ≤ x47_2) = true := decide_eq_true c28
                    clear c28
                    by_cases c29 : x47_2 < ((rdOf ByteArray.empty t191 1).size : Int)
                    · rw [if_pos c29] at H
                      have c29b0 : decide (x47_2 < ((rdOf ByteArray.empty t191 1).size : Int)) = true := decide_eq_true c29
                      clear c29
                      by_cases c31 : (bt (rdOf ByteArray.empty t191 1) x47_2) < 97
                      · rw [if_pos c31] at H
                        have c31b0 : decide ((bt (rdOf ByteArray.empty t191 1) x47_2) < 97) = true := decide_eq_true c31
                        clear c31
                        simp only [Option.some.injEq, Prod.mk.injEq] at H
                        obtain ⟨rfl, rfl, rfl, rfl⟩ := H
                        have p200 : 0 ≤ (1 : Int) := (by omega)
                        have q200 : 1 < (t191.length : Int) := of_decide_eq_true (by first | (with_reducible assumption) | assumption)
                        obtain ⟨ad200, e200, hx200_0⟩ := Kd.at_string (Kd.R_reads' HO_4.out).2.2 1 p200 q200
                        obtain rfl : ad198 = ad200 := (by injection e200)
                        (try simp only [show (1 : Int).toNat = 1 from rfl, Nat.reduceMul, Nat.reduceEqDiff, Go.Addr.add, ↓reduceIte] at hx200_0)
                        have qi200 : (1 < t191.length) = True := eq_true (by omega)
                        (try rw [show ((1 : Int)).toNat = 1 from rfl] at hx200_0)
                        replace p200 := eq_true p200
                        replace q200 := eq_true q200
                        have p30 : 0 ≤ (x47_2 : Int) := of_decide_eq_true (by first | (with_reducible assumption) | assumption)
                        have q30 : x47_2 < ((rdOf ByteArray.empty t191 1).size : Int) := of_decide_eq_true (by first | (with_reducible assumption) | assumption)
                        have hx30 := bt_at (rdOf ByteArray.empty t191 1) x47_2
                        replace p30 := eq_true p30
                        replace q30 := eq_true q30
                        go_wp2_with (first | ((with_reducible refine gate_store (t := 45) (p := 2) rfl ?_); refine Arr.storeA ?hg (T := 45) (p := 2) (v := ?vo_w33) ?ho ?hn (g := gb190) (off := 0) ?hx (m := ((.bool false) :: (.slice none 0 0) :: Arr.arL .i8 (Vector.replicate 16 0 : Vector Int 16))) ?hy (t := 45) (pre := []) (old := ((.bool x191000_2) :: (.slice none 0 0) :: Arr.arL .i8 x191002_2)) (show wr.heap[gb190]? = some (.cells (⟨(.bool x191000_2) :: (.slice none 0 0) :: Arr.arL .i8 x191002_2⟩ : Array Value) 45 (0, 0)) from by (with_reducible repeat (first | refine blk_drewN ?_ _ | refine blk_drew ?_ | refine blk_alloc ?_ _)); exact BK190.out) rfl (by simp [Arr.arL_length]) (n := 18) (by kernel_rfl) (by simp [Arr.arL_length]) (Arr.ones_2 rfl rfl) ?_; (case ho => rfl); (case hg => rfl); (case hn => rfl); (case hx => first | (go_simp; done) | rfl | (go_simp; rfl)); (case hy => first | (go_simp; done) | rfl | (go_simp; rfl)); intro w33 hbx hg hbe; replace hbx : w33.heap[gb190]? = some (.cells (⟨(.bool false) :: (.slice none 0 0) :: Arr.arL .i8 (Vector.replicate 16 0 : Vector Int 16)⟩ : Array Value) 45 (0, 0)) := hbx; have n0_ := Aside0.mk (Kd.R_grown1 (by (with_reducible repeat (first | apply Kd.R_alloc | apply Kd.R_drewN | apply Kd.R_drew)); exact HO_4.out) rfl hg (Kd.R_ne HO_4.out BK190.out (by decide))); have n1_ := Aside0.mk (hbx); have n2_ := Aside0.mk (blk_grown (g := gb199) (o := .cells (⟨(.bool ((rdOf ByteArray.empty t191 0).toList == ([115, 116, 111, 99, 107] : List UInt8))) :: (.slice none 0 0) :: Arr.arL .i8 x200002_2⟩ : Array Value) 45 (0, 0)) (by (with_reducible repeat (first | refine blk_drewN ?_ _ | refine blk_drew ?_ | refine blk_alloc ?_ _)); exact BK199.out) hg (fun e_ => NB199_190.out (Option.some.inj e_))); have n3_ := Aside0.mk (hbe _ _ (by repeat (first | (with_reducible first | exact HB.out | apply below_alloc | apply pw_below_drewN | apply below_drew1 | refine below_set ?_ GE190.out | refine below_set ?_ GE199.out) | exact HB.out)) GE190.out); clear HO_4; clear BK190; clear BK199; clear HB; have HO_4 := n0_; have BK190 := n1_; have BK199 := n2_; have HB := n3_; clear n0_ n1_ n2_ n3_; (try clear hbx hg hbe)))
                        refine bodyPost_ret (results_ct rfl _ _ gb190 45 (⟨(.bool false) :: (.slice none 0 0) :: Arr.arL .i8 (Vector.replicate 16 0 : Vector Int 16)⟩ : Array Value) (0, 0) _ rfl (by (with_reducible repeat (first | refine blk_drewN ?_ _ | refine blk_drew ?_ | refine blk_alloc ?_ _)); exact BK190.out) Tryd.underlying45 rfl (by rw [show (Tryd.prog.info? 45).map (·.size) = some 18 from by kernel_rfl]; simp [Arr.arL_length])) rfl ?_
                        exact ⟨_, by first | rfl | (simp [errW_none, errW_some] <;> rfl) | (simp [*, errW_none, errW_some] <;> rfl), by first | exact Kd.R_nil _ _ _ _ _ | exact Kd.N_nil _ _ _ _ _ | exact Kd.V_nil _ _ _ _ _ | exact Kd.Q_nil _ _ _ _ _ | exact Kd.S_nil _ _ _ _ _, by repeat (first | (with_reducible first | exact HB.out | apply below_alloc | apply pw_below_drewN | apply below_drew1 | refine below_set ?_ GE190.out | refine below_set ?_ GE199.out) | exact HB.out)⟩
                      · rw [if_neg c31] at H
                        have c31b0 : decide ((bt (rdOf ByteArray.empty t191 1) x47_2) < 97) = false := decide_eq_false c31
                        clear c31
                        by_cases c35 : (bt (rdOf ByteArray.empty t191 1) x47_2) > 103
                        · rw [if_pos c35] at H
                          have c35b0 : decide (103 < (bt (rdOf ByteArray.empty t191 1) x47_2)) = true := decide_eq_true c35
                          clear c35
                          simp only [Option.some.injEq, Prod.mk.injEq] at H
                          obtain ⟨rfl, rfl, rfl, rfl⟩ := H
                          have p200 : 0 ≤ (1 : Int) := (by omega)
                          have q200 : 1 < (t191.length : Int) := of_decide_eq_true (by first | (with_reducible assumption) | assumption)
                          obtain ⟨ad200, e200, hx200_0⟩ := Kd.at_string (Kd.R_reads' HO_4.out).2.2 1 p200 q200
                          obtain rfl : ad198 = ad200 := (by injection e200)
                          (try simp only [show (1 : Int).toNat = 1 from rfl, Nat.reduceMul, Nat.reduceEqDiff, Go.Addr.add, ↓reduceIte] at hx200_0)
                          have qi200 : (1 < t191.length) = True := eq_true (by omega)
                          (try rw [show ((1 : Int)).toNat = 1 from rfl] at hx200_0)
                          replace p200 := eq_true p200
                          replace q200 := eq_true q200
                          have p30 : 0 ≤ (x47_2 : Int) := of_decide_eq_true (by first | (with_reducible assumption) | assumption)
                          have q30 : x47_2 < ((rdOf ByteArray.empty t191 1).size : Int) := of_decide_eq_true (by first | (with_reducible assumption) | assumption)
                          have hx30 := bt_at (rdOf ByteArray.empty t191 1) x47_2
                          replace p30 := eq_true p30
                          replace q30 := eq_true q30
                          have p201 : 0 ≤ (1 : Int) := (by omega)
                          have q201 : 1 < (t191.length : Int) := of_decide_eq_true (by first | (with_reducible assumption) | assumption)
                          obtain ⟨ad201, e201, hx201_0⟩ := Kd.at_string (Kd.R_reads' HO_4.out).2.2 1 p201 q201
                          obtain rfl : ad198 = ad201 := (by injection e201)
                          (try simp only [show (1 : Int).toNat = 1 from rfl, Nat.reduceMul, Nat.reduceEqDiff, Go.Addr.add, ↓reduceIte] at hx201_0)
                          have qi201 : (1 < t191.length) = True := eq_true (by omega)
                          (try rw [show ((1 : Int)).toNat = 1 from rfl] at hx201_0)
                          replace p201 := eq_true p201
                          replace q201 := eq_true q201
                          have p34 : 0 ≤ (x47_2 : Int) := of_decide_eq_true (by first | (with_reducible assumption) | assumption)
                          have q34 : x47_2 < ((rdOf ByteArray.empty t191 1).size : Int) := of_decide_eq_true (by first | (with_reducible assumption) | assumption)
                          have hx34 := bt_at (rdOf ByteArray.empty t191 1) x47_2
                          replace p34 := eq_true p34
                          replace q34 := eq_true q34
                          go_wp2_with (first | ((with_reducible refine gate_store (t := 45) (p := 2) rfl ?_); refine Arr.storeA ?hg (T := 45) (p := 2) (v := ?vo_w37) ?ho ?hn (g := gb190) (off := 0) ?hx (m := ((.bool false) :: (.slice none 0 0) :: Arr.arL .i8 (Vector.replicate 16 0 : Vector Int 16))) ?hy (t := 45) (pre := []) (old := ((.bool x191000_2) :: (.slice none 0 0) :: Arr.arL .i8 x191002_2)) (show wr.heap[gb190]? = some (.cells (⟨(.bool x191000_2) :: (.slice none 0 0) :: Arr.arL .i8 x191002_2⟩ : Array Value) 45 (0, 0)) from by (with_reducible repeat (first | refine blk_drewN ?_ _ | refine blk_drew ?_ | refine blk_alloc ?_ _)); exact BK190.out) rfl (by simp [Arr.arL_length]) (n := 18) (by kernel_rfl) (by simp [Arr.arL_length]) (Arr.ones_2 rfl rfl) ?_; (case ho => rfl); (case hg => rfl); (case hn => rfl); (case hx => first | (go_simp; done) | rfl | (go_simp; rfl)); (case hy => first | (go_simp; done) | rfl | (go_simp; rfl)); intro w37 hbx hg hbe; replace hbx : w37.heap[gb190]? = some (.cells (⟨(.bool false) :: (.slice none 0 0) :: Arr.arL .i8 (Vector.replicate 16 0 : Vector Int 16)⟩ : Array Value) 45 (0, 0)) := hbx; have n0_ := Aside0.mk (Kd.R_grown1 (by (with_reducible repeat (first | apply Kd.R_alloc | apply Kd.R_drewN | apply Kd.R_drew)); exact HO_4.out) rfl hg (Kd.R_ne HO_4.out BK190.out (by decide))); have n1_ := Aside0.mk (hbx); have n2_ := Aside0.mk (blk_grown (g := gb199) (o := .cells (⟨(.bool ((rdOf ByteArray.empty t191 0).toList == ([115, 116, 111, 99, 107] : List UInt8))) :: (.slice none 0 0) :: Arr.arL .i8 x200002_2⟩ : Array Value) 45 (0, 0)) (by (with_reducible repeat (first | refine blk_drewN ?_ _ | refine blk_drew ?_ | refine blk_alloc ?_ _)); exact BK199.out) hg (fun e_ => NB199_190.out (Option.some.inj e_))); have n3_ := Aside0.mk (hbe _ _ (by repeat (first | (with_reducible first | exact HB.out | apply below_alloc | apply pw_below_drewN | apply below_drew1 | refine below_set ?_ GE190.out | refine below_set ?_ GE199.out) | exact HB.out)) GE190.out); clear HO_4; clear BK190; clear BK199; clear HB; have HO_4 := n0_; have BK190 := n1_; have BK199 := n2_; have HB := n3_; clear n0_ n1_ n2_ n3_; (try clear hbx hg hbe)))
                          refine bodyPost_ret (results_ct rfl _ _ gb190 45 (⟨(.bool false) :: (.slice none 0 0) :: Arr.arL .i8 (Vector.replicate 16 0 : Vector Int 16)⟩ : Array Value) (0, 0) _ rfl (by (with_reducible repeat (first | refine blk_drewN ?_ _ | refine blk_drew ?_ | refine blk_alloc ?_ _)); exact BK190.out) Tryd.underlying45 rfl (by rw [show (Tryd.prog.info? 45).map (·.size) = some 18 from by kernel_rfl]; simp [Arr.arL_length])) rfl ?_
                          exact ⟨_, by first | rfl | (simp [errW_none, errW_some] <;> rfl) | (simp [*, errW_none, errW_some] <;> rfl), by first | exact Kd.R_nil _ _ _ _ _ | exact Kd.N_nil _ _ _ _ _ | exact Kd.V_nil _ _ _ _ _ | exact Kd.Q_nil _ _ _ _ _ | exact Kd.S_nil _ _ _ _ _, by repeat (first | (with_reducible first | exact HB.out | apply below_alloc | apply pw_below_drewN | apply below_drew1 | refine below_set ?_ GE190.out | refine below_set ?_ GE199.out) | exact HB.out)⟩
                        · rw [if_neg c35] at H
                          have c35b0 : decide (103 < (bt (rdOf ByteArray.empty t191 1) x47_2)) = false := decide_eq_false c35
                          clear c35
                          obtain ⟨y203, hy203⟩ : ∃ y_ : Vector Int 16, y_ = (Arr.vst x200002_2 x47_2 (IntKind.i8.wrap ((IntKind.i8.wrap (bt (rdOf ByteArray.empty t191 1) x47_2)) - 100))) := ⟨_, rfl⟩
                          replace H : (impl_ReadHalf.l0 k2 t191 (wrap64 (x47_2 + 1)) ((rdOf ByteArray.empty t191 0).toList == ([115, 116, 111, 99, 107] : List UInt8)) y203) = some (r1, r2, r3, r4) := by first | (rw [hy203]; with_reducible exact H) | (have H2_ := (Option.bind_some _ _).symm.trans H; rw [hy203]; with_reducible exact H2_) | (have H2_ := (Option.bind_some _ _).symm.trans H; with_reducible exact H2_) | with_reducible exact H | (rw [hy203]; exact H) | exact H
                          have Ny203 := Aside0.mk hy203
                          clear hy203
                          have H' := Aside0.mk H
                          clear H
                          have p200 : 0 ≤ (1 : Int) := (by omega)
                          have q200 : 1 < (t191.length : Int) := of_decide_eq_true (by first | (with_reducible assumption) | assumption)
                          obtain ⟨ad200, e200, hx200_0⟩ := Kd.at_string (Kd.R_reads' HO_4.out).2.2 1 p200 q200
                          obtain rfl : ad198 = ad200 := (by injection e200)
                          (try simp only [show (1 : Int).toNat = 1 from rfl, Nat.reduceMul, Nat.reduceEqDiff, Go.Addr.add, ↓reduceIte] at hx200_0)
                          have qi200 : (1 < t191.length) = True := eq_true (by omega)
                          (try rw [show ((1 : Int)).toNat = 1 from rfl] at hx200_0)
                          replace p200 := eq_true p200
                          replace q200 := eq_true q200
                          have p30 : 0 ≤ (x47_2 : Int) := of_decide_eq_true (by first | (with_reducible assumption) | assumption)
                          have q30 : x47_2 < ((rdOf ByteArray.empty t191 1).size : Int) := of_decide_eq_true (by first | (with_reducible assumption) | assumption)
                          have hx30 := bt_at (rdOf ByteArray.empty t191 1) x47_2
                          replace p30 := eq_true p30
                          replace q30 := eq_true q30
                          have p201 : 0 ≤ (1 : Int) := (by omega)
                          have q201 : 1 < (t191.length : Int) := of_decide_eq_true (by first | (with_reducible assumption) | assumption)
                          obtain ⟨ad201, e201, hx201_0⟩ := Kd.at_string (Kd.R_reads' HO_4.out).2.2 1 p201 q201
                          obtain rfl : ad198 = ad201 := (by injection e201)
                          (try simp only [show (1 : Int).toNat = 1 from rfl, Nat.reduceMul, Nat.reduceEqDiff, Go.Addr.add, ↓reduceIte] at hx201_0)
                          have qi201 : (1 < t191.length) = True := eq_true (by omega)
                          (try rw [show ((1 : Int)).toNat = 1 from rfl] at hx201_0)
                          replace p201 := eq_true p201
                          replace q201 := eq_true q201
                          have p34 : 0 ≤ (x47_2 : Int) := of_decide_eq_true (by first | (with_reducible assumption) | assumption)
                          have q34 : x47_2 < ((rdOf ByteArray.empty t191 1).size : Int) := of_decide_eq_true (by first | (with_reducible assumption) | assumption)
                          have hx34 := bt_at (rdOf ByteArray.empty t191 1) x47_2
                          replace p34 := eq_true p34
                          replace q34 := eq_true q34
                          have p202 : 0 ≤ (1 : Int) := (by omega)
                          have q202 : 1 < (t191.length : Int) := of_decide_eq_true (by first | (with_reducible assumption) | assumption)
                          obtain ⟨ad202, e202, hx202_0⟩ := Kd.at_string (Kd.R_reads' HO_4.out).2.2 1 p202 q202
                          obtain rfl : ad198 = ad202 := (by injection e202)
                          (try simp only [show (1 : Int).toNat = 1 from rfl, Nat.reduceMul, Nat.reduceEqDiff, Go.Addr.add, ↓reduceIte] at hx202_0)
                          have qi202 : (1 < t191.length) = True := eq_true (by omega)
                          (try rw [show ((1 : Int)).toNat = 1 from rfl] at hx202_0)
                          replace p202 := eq_true p202
                          replace q202 := eq_true q202
                          have p38 : 0 ≤ (x47_2 : Int) := of_decide_eq_true (by first | (with_reducible assumption) | assumption)
                          have q38 : x47_2 < ((rdOf ByteArray.empty t191 1).size : Int) := of_decide_eq_true (by first | (with_reducible assumption) | assumption)
                          have hx38 := bt_at (rdOf ByteArray.empty t191 1) x47_2
                          replace p38 := eq_true p38
                          replace q38 := eq_true q38
                          have p39 : 0 ≤ (x47_2 : Int) := of_decide_eq_true (by first | (with_reducible assumption) | assumption)
                          have q39 : (x47_2 : Int) < 16 := of_decide_eq_true (by first | (with_reducible assumption) | assumption)
                          replace p39 := eq_true p39
                          replace q39 := eq_true q39
                          go_wp2_with (first | ((with_reducible refine gate_store (t := 36) (p := 74) rfl ?_); have hx40 : wr.cell? ⟨gb199, 2 + x47_2.toNat, none⟩ = some (.int .i8 (Arr.vrd x200002_2 x47_2)) := Arr.cellN (off := 2) (l := ((.bool ((rdOf ByteArray.empty t191 0).toList == ([115, 116, 111, 99, 107] : List UInt8))) :: (.slice none 0 0) :: Arr.arL .i8 x200002_2)) (show wr.heap[gb199]? = some (.cells (⟨(.bool ((rdOf ByteArray.empty t191 0).toList == ([115, 116, 111, 99, 107] : List UInt8))) :: (.slice none 0 0) :: Arr.arL .i8 x200002_2⟩ : Array Value) 45 (0, 0)) from by (with_reducible repeat (first | refine blk_drewN ?_ _ | refine blk_drew ?_ | refine blk_alloc ?_ _)); exact BK199.out) rfl (2 + x47_2.toNat) (x47_2.toNat) (by omega) (by have a0_ := of_eq_true p39; have b0_ := of_eq_true q39; omega); have hf40 := blk_frozen (show wr.heap[gb199]? = some (.cells (⟨(.bool ((rdOf ByteArray.empty t191 0).toList == ([115, 116, 111, 99, 107] : List UInt8))) :: (.slice none 0 0) :: Arr.arL .i8 x200002_2⟩ : Array Value) 45 (0, 0)) from by (with_reducible repeat (first | refine blk_drewN ?_ _ | refine blk_drew ?_ | refine blk_alloc ?_ _)); exact BK199.out) (2 + x47_2.toNat); refine Arr.putN ?hg (T := 36) (p := 74) (v := ?vo_w41) ?ho ?hn (g := gb199) (off := 2) (m := 2 + x47_2.toNat) (n := x47_2.toNat) (k := .i8) (y := (IntKind.i8.wrap ((IntKind.i8.wrap (bt (rdOf ByteArray.empty t191 1) x47_2)) - 100))) (x := x200002_2) (t := 45) (pre := [.bool ((rdOf ByteArray.empty t191 0).toList == ([115, 116, 111, 99, 107] : List UInt8)), .slice none 0 0]) (show wr.heap[gb199]? = some (.cells (⟨(.bool ((rdOf ByteArray.empty t191 0).toList == ([115, 116, 111, 99, 107] : List UInt8))) :: (.slice none 0 0) :: Arr.arL .i8 x200002_2⟩ : Array Value) 45 (0, 0)) from by (with_reducible repeat (first | refine blk_drewN ?_ _ | refine blk_drew ?_ | refine blk_alloc ?_ _)); exact BK199.out) ?hp (by omega) ?hr ?_; (case ho => rfl); (case hg => rfl); (case hn => rfl); (case hp => rfl); (case hr => first | (go_simp; done) | (go_simp; rfl)); intro w41 hbx hg hbe; replace hbx : w41.heap[gb199]? = some (.cells (⟨(.bool ((rdOf ByteArray.empty t191 0).toList == ([115, 116, 111, 99, 107] : List UInt8))) :: (.slice none 0 0) :: Arr.arL .i8 y203⟩ : Array Value) 45 (0, 0)) := (by rw [Ny203.out]; exact hbx); have n0_ := Aside0.mk (Kd.R_grown1 (by (with_reducible repeat (first | apply Kd.R_alloc | apply Kd.R_drewN | apply Kd.R_drew)); exact HO_4.out) rfl hg (Kd.R_ne HO_4.out BK199.out (by decide))); have n1_ := Aside0.mk (blk_grown (g := gb190) (o := .cells (⟨(.bool x191000_2) :: (.slice none 0 0) :: Arr.arL .i8 x191002_2⟩ : Array Value) 45 (0, 0)) (by (with_reducible repeat (first | refine blk_drewN ?_ _ | refine blk_drew ?_ | refine blk_alloc ?_ _)); exact BK190.out) hg (fun e_ => NB190_199.out (Option.some.inj e_))); have n2_ := Aside0.mk (hbx); have n3_ := Aside0.mk (hbe _ _ (by repeat (first | (with_reducible first | exact HB.out | apply below_alloc | apply pw_below_drewN | apply below_drew1 | refine below_set ?_ GE190.out | refine below_set ?_ GE199.out) | exact HB.out)) GE199.out); clear HO_4; clear BK190; clear BK199; clear HB; have HO_4 := n0_; have BK190 := n1_; have BK199 := n2_; have HB := n3_; clear n0_ n1_ n2_ n3_; (try clear hbx hg hbe)))
                          go_roundg k2
                          case measure => have := HJ2.out; have := HK2.out; omega
                          case rel => exact ⟨(wrap64 (x47_2 + 1)), (x191000_2), (x191002_2), (y203), (by first | rfl | (simp; done) | (simp [*]; done)), H', ⟨by have := HJ2.out; have := HK2.out; omega⟩, ⟨by (with_reducible repeat (first | apply Kd.R_alloc | apply Kd.R_drewN | apply Kd.R_drew)); exact HO_4.out⟩, ⟨by (with_reducible repeat (first | refine blk_drewN ?_ _ | refine blk_drew ?_ | refine blk_alloc ?_ _)); exact BK190.out⟩, ⟨by (with_reducible repeat (first | refine blk_drewN ?_ _ | refine blk_drew ?_ | refine blk_alloc ?_ _)); exact BK199.out⟩, ⟨by repeat (first | (with_reducible first | exact HB.out | apply below_alloc | apply pw_below_drewN | apply below_drew1 | refine below_set ?_ GE190.out | refine below_set ?_ GE199.out) | exact HB.out)⟩⟩
                    · rw [if_neg c29] at H
                      exact absurd H (by simp)
                  · rw [if_neg c28] at H
                    exact absurd H (by simp)
                · rw [if_neg c27] at H
                  exact absurd H (by simp)
              · rw [if_neg c26] at H
                have c26b0 : decide (x47_2 < 16) = false := decide_eq_false c26
                clear c26
                by_cases c42 : 2 ≤ (t191.length : Int)
                · rw [if_pos c42] at H
                  have c42b0 := eq_true c42
                  have c42b1 : decide (2 ≤ (t191.length : Int)) = true := decide_eq_true c42
                  clear c42
                  obtain ⟨y204, hy204⟩ : ∃ y_ : List ByteArray, y_ = (t191.drop 2) := ⟨_, rfl⟩
                  replace H : (impl_ReadHalf.l1 k2 y204 (y204.length : Int) 0 ((rdOf ByteArray.empty t191 0).toList == ([115, 116, 111, 99, 107] : List UInt8)) ([] : List (S62)) x200002_2) = some (r1, r2, r3, r4) := by first | (rw [hy204]; with_reducible exact H) | (have H2_ := (Option.bind_some _ _).symm.trans H; rw [hy204]; with_reducible exact H2_) | (have H2_ := (Option.bind_some _ _).symm.trans H; with_reducible exact H2_) | with_reducible exact H | (rw [hy204]; exact H) | exact H
                  have Ny204 := Aside0.mk hy204
                  clear hy204
                  have H' := Aside0.mk H
                  clear H
                  have q43 : (2 : Int) ≤ ((t191.length : Int) : Int) := of_decide_eq_true (by first | (with_reducible assumption) | assumption)
                  obtain ⟨i043, hi043, _, hsz43, _⟩ := info_parts info9
                  have hroom43 : t191.length ≤ co23 := (Kd.R_reads' HO_4.out).2.1
                  have hC43 : Kd.C Kd.string _ (some ad198) t191.length t191 := (Kd.R_reads' HO_4.out).2.2
                  have hcut43 := cut_from (P := Tryd.prog) 80 9 .i64 Tryd.underlying80 hi043 1 hsz43 (some ad198) t191.length co23 2 (by omega) q43
                  have hr43 := Kd.C_drop (m := (2 : Int).toNat) (c := co23) hC43 (by omega) hroom43
                  obtain ⟨A43, hA43⟩ : ∃ A1, A1 = (if co23 = (2 : Int).toNat then (some ad198) else ((some ad198) : Option Addr).map (·.add ((2 : Int).toNat * 1))) := ⟨_, rfl⟩
                  obtain ⟨c43, hc43⟩ : ∃ c1, c1 = co23 - (2 : Int).toNat := ⟨_, rfl⟩
                  have hy43 : y204.length = t191.length - (2 : Int).toNat := (by rw [Ny204.out, List.length_drop] <;> omega)
                  rw [show (t191).drop (2 : Int).toNat = y204 from Ny204.out.symm] at hr43
                  replace hr43 : Kd.C Kd.string _ A43 y204.length y204 := (by rw [hA43]; exact hr43)
                  rw [← hy43, ← hA43, ← hc43] at hcut43
                  have HR207 := Aside0.mk hr43
                  have HC207 := Aside0.mk (show y204.length ≤ c43 from by rw [hy43, hc43]; exact Nat.sub_le_sub_right hroom43 _)
                  clear hr43 hC43 hroom43 hi043 hsz43 hc43
                  have KY43 := Aside0.mk hy43
                  have KA43 := Aside0.mk hA43
                  clear hy43 hA43
                  have KL43 := Aside0.mk (show 2 ≤ t191.length from by omega)
                  replace q43 := eq_true q43
                  obtain ⟨gf, curf, hgf, hbf⟩ := row_blk HO_4.out (by have := KL43.out; omega)
                  have hadf : ad198 = ⟨gf, 0, none⟩ := Option.some.inj hgf
                  clear hgf
                  have ADF := Aside0.mk hadf
                  clear hadf
                  have BF0 := Aside0.mk hbf
                  clear hbf
                  have NBF := Aside0.mk (blk_ne BF0.out BK199.out (by decide))
                  go_wp2
                  go_loopg [79] k2 (fun kq v79 w' => ∃ (x79_3 : Int) (x191000_3 : Bool) (x191002_3 : Vector Int 16) (x200001_3 : List (S62)) (u200001 : Value), v79 = .int .i64 x79_3 ∧ Aside0 (impl_ReadHalf.l1 kq y204 (y204.length : Int) x79_3 ((rdOf ByteArray.empty t191 0).toList == ([115, 116, 111, 99, 107] : List UInt8)) x200001_3 x200002_2 = some (r1, r2, r3, r4)) ∧ Aside0 (kq ≤ k2) ∧ Aside0 (Kd.R k62 62 w' w.heap.size (fun _ => True) u200001 x200001_3) ∧ Aside0 (w'.heap[gb190]? = some (.cells (⟨(.bool x191000_3) :: ((.slice none 0 0)) :: Arr.arL .i8 x191002_3⟩ : Array Value) 45 (0, 0))) ∧ Aside0 (w'.heap[gb199]? = some (.cells (⟨(.bool ((rdOf ByteArray.empty t191 0).toList == ([115, 116, 111, 99, 107] : List UInt8))) :: (u200001) :: Arr.arL .i8 x200002_2⟩ : Array Value) 45 (0, 0))) ∧ Aside0 (w'.heap[gf]? = some (.cells curf 9 (0, 0))) ∧ Aside0 (Below w.heap.size w w'))
                  case atStart => exact ⟨(0), (x191000_2), (x191002_2), (([] : List (S62))), (.slice none 0 0), (by first | rfl | (simp; done) | (simp [*]; done)), H', ⟨Nat.le_refl _⟩, ⟨by first | exact Kd.R_nil _ _ _ _ _ | exact Kd.N_nil _ _ _ _ _ | exact Kd.V_nil _ _ _ _ _ | exact Kd.Q_nil _ _ _ _ _ | exact Kd.S_nil _ _ _ _ _⟩, ⟨by (with_reducible repeat (first | refine blk_drewN ?_ _ | refine blk_drew ?_ | refine blk_alloc ?_ _)); exact BK190.out⟩, ⟨by (with_reducible repeat (first | refine blk_drewN ?_ _ | refine blk_drew ?_ | refine blk_alloc ?_ _)); exact BK199.out⟩, ⟨by (with_reducible repeat (first | refine blk_drewN ?_ _ | refine blk_drew ?_ | refine blk_alloc ?_ _)); exact BF0.out⟩, ⟨by repeat (first | (with_reducible first | exact HB.out | apply below_alloc | apply pw_below_drewN | apply below_drew1 | refine below_set ?_ GE190.out | refine below_set ?_ GE199.out) | exact HB.out)⟩⟩
                  case round =>
                    clear H'
                    try clear c1
                    try clear p1
                    try clear q1
                    try clear hx1
                    try clear qi1
                    try clear c2
                    try clear p2
                    try clear q2
                    try clear hx2
                    try clear qi2
                    try clear c3
                    try clear p3
                    try clear q3
                    try clear hx3
                    try clear c4
                    try clear q4
                    try clear hx4
                    try clear hf4
                    try clear c5
                    try clear c6
                    try clear c6b0
                    try clear c6b1
                    try clear p6
                    try clear c8
                    try clear c8b0
                    try clear c8b1
                    try clear c10
                    try clear c10b0
                    try clear c10b1
                    try clear c11
                    try clear c11b0
                    try clear c11b1
                    try clear c12
                    try clear c12b0
                    try clear c12b1
                    try clear c14
                    try clear c14b0
                    try clear c14b1
                    try clear c15
                    try clear c15b0
                    try clear c15b1
                    try clear c18
                    try clear p19
                    try clear q19
                    try clear hx19
                    try clear qi19
                    try clear p20
                    try clear q20
                    try clear hx20
                    try clear qi20
                    try clear c21
                    try clear c21b0
                    try clear c21b1
                    try clear c26
                    try clear c26b0
                    try clear c27
                    try clear c27b0
                    try clear c27b1
                    try clear c28
                    try clear c28b0
                    try clear c29
                    try clear c29b0
                    try clear p30
                    try clear q30
                    try clear hx30
                    try clear c31
                    try clear c31b0
                    try clear p34
                    try clear q34
                    try clear hx34
                    try clear c35
                    try clear c35b0
                    try clear p38
                    try clear q38
                    try clear hx38
                    try clear p39
                    try clear q39
                    try clear hx40
                    try clear hf40
                    try clear c42
                    try clear c42b0
                    try clear c42b1
                    try clear c43
                    try clear q43
                    try clear hx194_0
                    try clear hx195_0
                    try clear hx196_0
                    try clear hx197_0
                    try clear hx198_0
                    try clear hx200_0
                    try clear hx201_0
                    try clear hx202_0
                    try clear p1
                    try clear p19
                    try clear p194
                    try clear p195
                    try clear p196
                    try clear p197
                    try clear p198
                    try clear p2
                    try clear p200
                    try clear p201
                    try clear p202
                    try clear p30
                    try clear p34
                    try clear p38
                    try clear p39
                    try clear q1
                    try clear q19
                    try clear q194
                    try clear q195
                    try clear q196
                    try clear q197
                    try clear q198
                    try clear q200
                    try clear q201
                    try clear q202
                    try clear q30
                    try clear q34
                    try clear q38
                    try clear q39
                    try clear q43
                    obtain ⟨x79_3, x191000_3, x191002_3, x200001_3, u200001, rfl, HA, HK3, HO_200001, BK190, BK199, BF, HB⟩ := hrel
                    cases gk with
                    | zero => exact absurd HA.out (by simp [impl_ReadHalf.l1])
                    | succ k3 =>
                      have H := HA.out
                      clear HA
                      simp only [impl_ReadHalf.l1] at H
                      by_cases c44 : x79_3 < (y204.length : Int)
                      · rw [if_pos c44] at H
                        have c44b0 : decide (x79_3 < (y204.length : Int)) = true := decide_eq_true c44
                        clear c44
                        by_cases c45 : 0 ≤ x79_3
                        · rw [if_pos c45] at H
                          have c45b0 : decide (0 ≤ x79_3) = true := decide_eq_true c45
                          clear c45
                          by_cases c46 : x79_3 < (y204.length : Int)
                          · rw [if_pos c46] at H
                            have c46b0 : decide (x79_3 < (y204.length : Int)) = true := decide_eq_true c46
                            clear c46
                            by_cases c47 : (rdOf ByteArray.empty y204 x79_3).toList = ([] : List UInt8)
                            · rw [if_pos c47] at H
                              have c47b0 : ((rdOf ByteArray.empty y204 x79_3).toList == ([] : List UInt8)) = true := beq_iff_eq.mpr c47
                              have c47b1 : ((rdOf ByteArray.empty y204 x79_3).toList != ([] : List UInt8)) = false := bne_eq_false_iff_eq.mpr c47
                              clear c47
                              simp only [Option.some.injEq, Prod.mk.injEq] at H
                              obtain ⟨rfl, rfl, rfl, rfl⟩ := H
                              have p209 : 0 ≤ (x79_3 : Int) := of_decide_eq_true (by first | (with_reducible assumption) | assumption)
                              have q209 : x79_3 < (y204.length : Int) := of_decide_eq_true (by first | (with_reducible assumption) | assumption)
                              obtain ⟨ad209, e209, hx209_0⟩ := Kd.at_string HR207.out x79_3 p209 q209
                              cases e209
                              replace hx209_0 := (cell_blk BF0.out BF.out (blk_cutA KA43.out ADF.out _)).trans hx209_0
                              replace p209 := eq_true p209
                              replace q209 := eq_true q209
                              go_wp2_with (first | ((with_reducible refine gate_store (t := 45) (p := 2) rfl ?_); refine Arr.storeA ?hg (T := 45) (p := 2) (v := ?vo_w49) ?ho ?hn (g := gb190) (off := 0) ?hx (m := ((.bool false) :: (.slice none 0 0) :: Arr.arL .i8 (Vector.replicate 16 0 : Vector Int 16))) ?hy (t := 45) (pre := []) (old := ((.bool x191000_3) :: (.slice none 0 0) :: Arr.arL .i8 x191002_3)) (show wr.heap[gb190]? = some (.cells (⟨(.bool x191000_3) :: (.slice none 0 0) :: Arr.arL .i8 x191002_3⟩ : Array Value) 45 (0, 0)) from by (with_reducible repeat (first | refine blk_drewN ?_ _ | refine blk_drew ?_ | refine blk_alloc ?_ _)); exact BK190.out) rfl (by simp [Arr.arL_length]) (n := 18) (by kernel_rfl) (by simp [Arr.arL_length]) (Arr.ones_2 rfl rfl) ?_; (case ho => rfl); (case hg => rfl); (case hn => rfl); (case hx => first | (go_simp; done) | rfl | (go_simp; rfl)); (case hy => first | (go_simp; done) | rfl | (go_simp; rfl)); intro w49 hbx hg hbe; replace hbx : w49.heap[gb190]? = some (.cells (⟨(.bool false) :: (.slice none 0 0) :: Arr.arL .i8 (Vector.replicate 16 0 : Vector Int 16)⟩ : Array Value) 45 (0, 0)) := hbx; have n0_ := Aside0.mk (Kd.R_grown1 (by (with_reducible repeat (first | apply Kd.R_alloc | apply Kd.R_drewN | apply Kd.R_drew)); exact HO_200001.out) rfl hg (Kd.R_ne HO_200001.out BK190.out (by decide))); have n1_ := Aside0.mk (hbx); have n2_ := Aside0.mk (blk_grown (g := gb199) (o := .cells (⟨(.bool ((rdOf ByteArray.empty t191 0).toList == ([115, 116, 111, 99, 107] : List UInt8))) :: (u200001) :: Arr.arL .i8 x200002_2⟩ : Array Value) 45 (0, 0)) (by (with_reducible repeat (first | refine blk_drewN ?_ _ | refine blk_drew ?_ | refine blk_alloc ?_ _)); exact BK199.out) hg (fun e_ => NB199_190.out (Option.some.inj e_))); have n3_ := Aside0.mk (hbe _ _ (by repeat (first | (with_reducible first | exact HB.out | apply below_alloc | apply pw_below_drewN | apply below_drew1 | refine below_set ?_ GE190.out | refine below_set ?_ GE199.out) | exact HB.out)) GE190.out); clear HO_200001; clear BK190; clear BK199; clear HB; have HO_200001 := n0_; have BK190 := n1_; have BK199 := n2_; have HB := n3_; clear n0_ n1_ n2_ n3_; (try clear hbx hg hbe)))
                              refine bodyPost_ret (results_ct rfl _ _ gb190 45 (⟨(.bool false) :: (.slice none 0 0) :: Arr.arL .i8 (Vector.replicate 16 0 : Vector Int 16)⟩ : Array Value) (0, 0) _ rfl (by (with_reducible repeat (first | refine blk_drewN ?_ _ | refine blk_drew ?_ | refine blk_alloc ?_ _)); exact BK190.out) Tryd.underlying45 rfl (by rw [show (Tryd.prog.info? 45).map (·.size) = some 18 from by kernel_rfl]; simp [Arr.arL_length])) rfl ?_
                              exact ⟨_, by first | rfl | (simp [errW_none, errW_some] <;> rfl) | (simp [*, errW_none, errW_some] <;> rfl), by first | exact Kd.R_nil _ _ _ _ _ | exact Kd.N_nil _ _ _ _ _ | exact Kd.V_nil _ _ _ _ _ | exact Kd.Q_nil _ _ _ _ _ | exact Kd.S_nil _ _ _ _ _, by repeat (first | (with_reducible first | exact HB.out | apply below_alloc | apply pw_below_drewN | apply below_drew1 | refine below_set ?_ GE190.out | refine below_set ?_ GE199.out) | exact HB.out)⟩
                            · rw [if_neg c47] at H
                              have c47b0 : ((rdOf ByteArray.empty y204 x79_3).toList == ([] : List UInt8)) = false := beq_eq_false_iff_ne.mpr c47
                              have c47b1 : ((rdOf ByteArray.empty y204 x79_3).toList != ([] : List UInt8)) = true := bne_iff_ne.mpr c47
                              by_cases c50 : 0 < ((rdOf ByteArray.empty y204 x79_3).size : Int)
                              · rw [if_pos c50] at H
                                have c50b0 : decide (0 < ((rdOf ByteArray.empty y204 x79_3).size : Int)) = true := decide_eq_true c50
                                have c50b1 : decide (0 < (rdOf ByteArray.empty y204 x79_3).size) = true := decide_eq_true (by omega)
                                clear c50
                                replace H := Option.bind_eq_some_iff.mp H
                                obtain ⟨t210, A520, H⟩ := H
                                replace H : (if 1 ≤ ((rdOf ByteArray.empty y204 x79_3).size : Int) then ((impl_number.f k3 ((rdOf ByteArray.empty y204 x79_3).extract 1 (rdOf ByteArray.empty y204 x79_3).size)).bind fun bt211 => (if t210 < 0 then (some (false, ([] : List (S62)), (Vector.replicate 16 0 : Vector Int 16), 5)) else (if bt211.2 = true then (if bt211.1 > 200 then (some (false, ([] : List (S62)), (Vector.replicate 16 0 : Vector Int 16), 5)) else (if x200001_3.length < 35184372088832 then (impl_ReadHalf.l1 k3 y204 (y204.length : Int) (wrap64 (x79_3 + 1)) ((rdOf ByteArray.empty t191 0).toList == ([115, 116, 111, 99, 107] : List UInt8)) (x200001_3 ++ [(⟨IntKind.i8.wrap (t210), IntKind.i16.wrap (bt211.1)⟩ : S62)]) x200002_2) else (none))) else (some (false, ([] : List (S62)), (Vector.replicate 16 0 : Vector Int 16), 5))))) else (none)) = some (r1, r2, r3, r4) := H
                                have A52 := Aside0.mk A520
                                clear A520
                                by_cases c53 : 1 ≤ ((rdOf ByteArray.empty y204 x79_3).size : Int)
                                · rw [if_pos c53] at H
                                  have c53b0 := eq_true c53
                                  have c53b1 : decide (1 ≤ ((rdOf ByteArray.empty y204 x79_3).size : Int)) = true := decide_eq_true c53
                                  clear c53
                                  replace H := Option.bind_eq_some_iff.mp H
                                  obtain ⟨⟨t211, t212⟩, A540, H⟩ := H
                                  replace H : (if t210 < 0 then (some (false, ([] : List (S62)), (Vector.replicate 16 0 : Vector Int 16), 5)) else (if t212 = true then (if t211 > 200 then (some (false, ([] : List (S62)), (Vector.replicate 16 0 : Vector Int 16), 5)) else (if x200001_3.length < 35184372088832 then (impl_ReadHalf.l1 k3 y204 (y204.length : Int) (wrap64 (x79_3 + 1)) ((rdOf ByteArray.empty t191 0).toList == ([115, 116, 111, 99, 107] : List UInt8)) (x200001_3 ++ [(⟨IntKind.i8.wrap (t210), IntKind.i16.wrap (t211)⟩ : S62)]) x200002_2) else (none))) else (some (false, ([] : List (S62)), (Vector.replicate 16 0 : Vector Int 16), 5)))) = some (r1, r2, r3, r4) := H
                                  have A54 := Aside0.mk A540
                                  clear A540
                                  by_cases c55 : t210 < 0
                                  · rw [if_pos c55] at H
                                    have c55b0 : decide (t210 < 0) = true := decide_eq_true c55
                                    clear c55
                                    simp only [Option.some.injEq, Prod.mk.injEq] at H
                                    obtain ⟨rfl, rfl, rfl, rfl⟩ := H
                                    have p209 : 0 ≤ (x79_3 : Int) := of_decide_eq_true (by first | (with_reducible assumption) | assumption)
                                    have q209 : x79_3 < (y204.length : Int) := of_decide_eq_true (by first | (with_reducible assumption) | assumption)
                                    obtain ⟨ad209, e209, hx209_0⟩ := Kd.at_string HR207.out x79_3 p209 q209
                                    cases e209
                                    replace hx209_0 := (cell_blk BF0.out BF.out (blk_cutA KA43.out ADF.out _)).trans hx209_0
                                    replace p209 := eq_true p209
                                    replace q209 := eq_true q209
                                    have p51 : 0 ≤ (0 : Int) := (by omega)
                                    have q51 : 0 < (rdOf ByteArray.empty y204 x79_3).size := (by have : (0 : Int) < ((rdOf ByteArray.empty y204 x79_3).size : Int) := of_decide_eq_true (by first | (with_reducible assumption) | assumption); omega)
                                    have hx51 : ∀ h : 0 < (rdOf ByteArray.empty y204 x79_3).size, (((rdOf ByteArray.empty y204 x79_3)[0]'h).toNat : Int) = bt (rdOf ByteArray.empty y204 x79_3) 0 := bt_at (rdOf ByteArray.empty y204 x79_3) 0
                                    clear p51
                                    have qi51 : (0 < ((rdOf ByteArray.empty y204 x79_3).size : Int)) = True := eq_true (of_decide_eq_true (by first | (with_reducible assumption) | assumption))
                                    replace q51 := eq_true q51
                                    go_wp2_with (first | ((with_reducible refine gate_callee (f := 56) rfl ?_); refine goesL_ (some 88) rfl rfl Tryd.func56 (by kernel_rfl) rfl #[.string (⟨#[100, 115, 108, 118, 99, 109]⟩ : ByteArray), .int .u8 (bt (rdOf ByteArray.empty y204 x79_3) 0)] rfl (by (try simp only [List.map_toArray, List.map_cons, List.map_nil]); first | done | (go_simp; done) | rfl | (simp only [List.length_drop, List.length_take]; rfl)) ?_; (with_reducible refine (strings_IndexByte.calls (⟨#[100, 115, 108, 118, 99, 109]⟩ : ByteArray) (bt (rdOf ByteArray.empty y204 x79_3) 0) t210 _ A52.out).mono ?_); rintro e w57 ⟨rfl, hb⟩; refine ⟨_, rfl, ?_⟩; have n0_ := Aside0.mk (Kd.R_below (by (with_reducible repeat (first | apply Kd.R_alloc | apply Kd.R_drewN | apply Kd.R_drew)); exact HO_200001.out) hb); have n1_ := Aside0.mk (blk_below (g := gb190) (o := .cells (⟨(.bool x191000_3) :: (.slice none 0 0) :: Arr.arL .i8 x191002_3⟩ : Array Value) 45 (0, 0)) (by (with_reducible repeat (first | refine blk_drewN ?_ _ | refine blk_drew ?_ | refine blk_alloc ?_ _)); exact BK190.out) hb); have n2_ := Aside0.mk (blk_below (g := gb199) (o := .cells (⟨(.bool ((rdOf ByteArray.empty t191 0).toList == ([115, 116, 111, 99, 107] : List UInt8))) :: (u200001) :: Arr.arL .i8 x200002_2⟩ : Array Value) 45 (0, 0)) (by (with_reducible repeat (first | refine blk_drewN ?_ _ | refine blk_drew ?_ | refine blk_alloc ?_ _)); exact BK199.out) hb); have n3_ := Aside0.mk (below_step (by repeat (first | (with_reducible first | exact HB.out | apply below_alloc | apply pw_below_drewN | apply below_drew1 | refine below_set ?_ GE190.out | refine below_set ?_ GE199.out) | exact HB.out)) hb); clear HO_200001; clear BK190; clear BK199; clear HB; have HO_200001 := n0_; have BK190 := n1_; have BK199 := n2_; have HB := n3_; clear n0_ n1_ n2_ n3_; (try clear hb); (try clear hb2); (try clear hk); (try clear hi)) | ((with_reducible refine gate_callee (f := 55) rfl ?_); refine goesL_ (some 92) rfl rfl Tryd.func55 (by kernel_rfl) rfl #[.string ((rdOf ByteArray.empty y204 x79_3).extract 1 (rdOf ByteArray.empty y204 x79_3).size)] rfl (by (try simp only [List.map_toArray, List.map_cons, List.map_nil]); first | done | (go_simp; done) | rfl | (simp only [List.length_drop, List.length_take]; rfl)) ?_; (with_reducible refine (impl_number.calls k3 ((rdOf ByteArray.empty y204 x79_3).extract 1 (rdOf ByteArray.empty y204 x79_3).size) t211 t212 _ A54.out).mono ?_); rintro e w' ⟨rfl, ⟨nd, rfl⟩⟩; refine ⟨_, rfl, ?_⟩) | ((with_reducible refine gate_store (t := 45) (p := 2) rfl ?_); refine Arr.storeA ?hg (T := 45) (p := 2) (v := ?vo_w58) ?ho ?hn (g := gb190) (off := 0) ?hx (m := ((.bool false) :: (.slice none 0 0) :: Arr.arL .i8 (Vector.replicate 16 0 : Vector Int 16))) ?hy (t := 45) (pre := []) (old := ((.bool x191000_3) :: (.slice none 0 0) :: Arr.arL .i8 x191002_3)) (show w57.heap[gb190]? = some (.cells (⟨(.bool x191000_3) :: (.slice none 0 0) :: Arr.arL .i8 x191002_3⟩ : Array Value) 45 (0, 0)) from by (with_reducible repeat (first | refine blk_drewN ?_ _ | refine blk_drew ?_ | refine blk_alloc ?_ _)); exact BK190.out) rfl (by simp [Arr.arL_length]) (n := 18) (by kernel_rfl) (by simp [Arr.arL_length]) (Arr.ones_2 rfl rfl) ?_; (case ho => rfl); (case hg => rfl); (case hn => rfl); (case hx => first | (go_simp; done) | rfl | (go_simp; rfl)); (case hy => first | (go_simp; done) | rfl | (go_simp; rfl)); intro w58 hbx hg hbe; replace hbx : w58.heap[gb190]? = some (.cells (⟨(.bool false) :: (.slice none 0 0) :: Arr.arL .i8 (Vector.replicate 16 0 : Vector Int 16)⟩ : Array Value) 45 (0, 0)) := hbx; have n0_ := Aside0.mk (Kd.R_grown1 (by (with_reducible repeat (first | apply Kd.R_alloc | apply Kd.R_drewN | apply Kd.R_drew)); exact HO_200001.out) rfl hg (Kd.R_ne HO_200001.out BK190.out (by decide))); have n1_ := Aside0.mk (hbx); have n2_ := Aside0.mk (blk_grown (g := gb199) (o := .cells (⟨(.bool ((rdOf ByteArray.empty t191 0).toList == ([115, 116, 111, 99, 107] : List UInt8))) :: (u200001) :: Arr.arL .i8 x200002_2⟩ : Array Value) 45 (0, 0)) (by (with_reducible repeat (first | refine blk_drewN ?_ _ | refine blk_drew ?_ | refine blk_alloc ?_ _)); exact BK199.out) hg (fun e_ => NB199_190.out (Option.some.inj e_))); have n3_ := Aside0.mk (hbe _ _ (by repeat (first | (with_reducible first | exact HB.out | apply below_alloc | apply pw_below_drewN | apply below_drew1 | refine below_set ?_ GE190.out | refine below_set ?_ GE199.out) | exact HB.out)) GE190.out); clear HO_200001; clear BK190; clear BK199; clear HB; have HO_200001 := n0_; have BK190 := n1_; have BK199 := n2_; have HB := n3_; clear n0_ n1_ n2_ n3_; (try clear hbx hg hbe)))
                                    refine bodyPost_ret (results_ct rfl _ _ gb190 45 (⟨(.bool false) :: (.slice none 0 0) :: Arr.arL .i8 (Vector.replicate 16 0 : Vector Int 16)⟩ : Array Value) (0, 0) _ rfl (by (with_reducible repeat (first | refine blk_drewN ?_ _ | refine blk_drew ?_ | refine blk_alloc ?_ _)); exact BK190.out) Tryd.underlying45 rfl (by rw [show (Tryd.prog.info? 45).map (·.size) = some 18 from by kernel_rfl]; simp [Arr.arL_length])) rfl ?_
                                    exact ⟨_, by first | rfl | (simp [errW_none, errW_some] <;> rfl) | (simp [*, errW_none, errW_some] <;> rfl), by first | exact Kd.R_nil _ _ _ _ _ | exact Kd.N_nil _ _ _ _ _ | exact Kd.V_nil _ _ _ _ _ | exact Kd.Q_nil _ _ _ _ _ | exact Kd.S_nil _ _ _ _ _, by repeat (first | (with_reducible first | exact HB.out | apply below_alloc | apply pw_below_drewN | apply below_drew1 | refine below_set ?_ GE190.out | refine below_set ?_ GE199.out) | exact HB.out)⟩
                                  · rw [if_neg c55] at H
                                    have c55b0 : decide (t210 < 0) = false := decide_eq_false c55
                                    clear c55
                                    by_cases c59 : t212 = true
                                    · subst c59
                                      have H1 : (if t211 > 200 then (some (false, ([] : List (S62)), (Vector.replicate 16 0 : Vector Int 16), 5)) else (if x200001_3.length < 35184372088832 then (impl_ReadHalf.l1 k3 y204 (y204.length : Int) (wrap64 (x79_3 + 1)) ((rdOf ByteArray.empty t191 0).toList == ([115, 116, 111, 99, 107] : List UInt8)) (x200001_3 ++ [(⟨IntKind.i8.wrap (t210), IntKind.i16.wrap (t211)⟩ : S62)]) x200002_2) else (none))) = some (r1, r2, r3, r4) := by rw [if_pos rfl] at H; exact H
                                      clear H
                                      have H := H1
                                      clear H1
                                      by_cases c60 : t211 > 200
                                      · rw [if_pos c60] at H
                                        have c60b0 : decide (200 < t211) = true := decide_eq_true c60
                                        clear c60
                                        simp only [Option.some.injEq, Prod.mk.injEq] at H
                                        obtain ⟨rfl, rfl, rfl, rfl⟩ := H
                                        have p209 : 0 ≤ (x79_3 : Int) := of_decide_eq_true (by first | (with_reducible assumption) | assumption)
                                        have q209 : x79_3 < (y204.length : Int) := of_decide_eq_true (by first | (with_reducible assumption) | assumption)
                                        obtain ⟨ad209, e209, hx209_0⟩ := Kd.at_string HR207.out x79_3 p209 q209
                                        cases e209
                                        replace hx209_0 := (cell_blk BF0.out BF.out (blk_cutA KA43.out ADF.out _)).trans hx209_0
                                        replace p209 := eq_true p209
                                        replace q209 := eq_true q209
                                        have p51 : 0 ≤ (0 : Int) := (by omega)
                                        have q51 : 0 < (rdOf ByteArray.empty y204 x79_3).size := (by have : (0 : Int) < ((rdOf ByteArray.empty y204 x79_3).size : Int) := of_decide_eq_true (by first | (with_reducible assumption) | assumption); omega)
                                        have hx51 : ∀ h : 0 < (rdOf ByteArray.empty y204 x79_3).size, (((rdOf ByteArray.empty y204 x79_3)[0]'h).toNat : Int) = bt (rdOf ByteArray.empty y204 x79_3) 0 := bt_at (rdOf ByteArray.empty y204 x79_3) 0
                                        clear p51
                                        have qi51 : (0 < ((rdOf ByteArray.empty y204 x79_3).size : Int)) = True := eq_true (of_decide_eq_true (by first | (with_reducible assumption) | assumption))
                                        replace q51 := eq_true q51
                                        go_wp2_with (first | ((with_reducible refine gate_callee (f := 56) rfl ?_); refine goesL_ (some 88) rfl rfl Tryd.func56 (by kernel_rfl) rfl #[.string (⟨#[100, 115, 108, 118, 99, 109]⟩ : ByteArray), .int .u8 (bt (rdOf ByteArray.empty y204 x79_3) 0)] rfl (by (try simp only [List.map_toArray, List.map_cons, List.map_nil]); first | done | (go_simp; done) | rfl | (simp only [List.length_drop, List.length_take]; rfl)) ?_; (with_reducible refine (strings_IndexByte.calls (⟨#[100, 115, 108, 118, 99, 109]⟩ : ByteArray) (bt (rdOf ByteArray.empty y204 x79_3) 0) t210 _ A52.out).mono ?_); rintro e w62 ⟨rfl, hb⟩; refine ⟨_, rfl, ?_⟩; have n0_ := Aside0.mk (Kd.R_below (by (with_reducible repeat (first | apply Kd.R_alloc | apply Kd.R_drewN | apply Kd.R_drew)); exact HO_200001.out) hb); have n1_ := Aside0.mk (blk_below (g := gb190) (o := .cells (⟨(.bool x191000_3) :: (.slice none 0 0) :: Arr.arL .i8 x191002_3⟩ : Array Value) 45 (0, 0)) (by (with_reducible repeat (first | refine blk_drewN ?_ _ | refine blk_drew ?_ | refine blk_alloc ?_ _)); exact BK190.out) hb); have n2_ := Aside0.mk (blk_below (g := gb199) (o := .cells (⟨(.bool ((rdOf ByteArray.empty t191 0).toList == ([115, 116, 111, 99, 107] : List UInt8))) :: (u200001) :: Arr.arL .i8 x200002_2⟩ : Array Value) 45 (0, 0)) (by (with_reducible repeat (first | refine blk_drewN ?_ _ | refine blk_drew ?_ | refine blk_alloc ?_ _)); exact BK199.out) hb); have n3_ := Aside0.mk (below_step (by repeat (first | (with_reducible first | exact HB.out | apply below_alloc | apply pw_below_drewN | apply below_drew1 | refine below_set ?_ GE190.out | refine below_set ?_ GE199.out) | exact HB.out)) hb); clear HO_200001; clear BK190; clear BK199; clear HB; have HO_200001 := n0_; have BK190 := n1_; have BK199 := n2_; have HB := n3_; clear n0_ n1_ n2_ n3_; (try clear hb); (try clear hb2); (try clear hk); (try clear hi)) | ((with_reducible refine gate_callee (f := 55) rfl ?_); refine goesL_ (some 92) rfl rfl Tryd.func55 (by kernel_rfl) rfl #[.string ((rdOf ByteArray.empty y204 x79_3).extract 1 (rdOf ByteArray.empty y204 x79_3).size)] rfl (by (try simp only [List.map_toArray, List.map_cons, List.map_nil]); first | done | (go_simp; done) | rfl | (simp only [List.length_drop, List.length_take]; rfl)) ?_; (with_reducible refine (impl_number.calls k3 ((rdOf ByteArray.empty y204 x79_3).extract 1 (rdOf ByteArray.empty y204 x79_3).size) t211 true _ A54.out).mono ?_); rintro e w' ⟨rfl, ⟨nd, rfl⟩⟩; refine ⟨_, rfl, ?_⟩) | ((with_reducible refine gate_store (t := 45) (p := 2) rfl ?_); refine Arr.storeA ?hg (T := 45) (p := 2) (v := ?vo_w63) ?ho ?hn (g := gb190) (off := 0) ?hx (m := ((.bool false) :: (.slice none 0 0) :: Arr.arL .i8 (Vector.replicate 16 0 : Vector Int 16))) ?hy (t := 45) (pre := []) (old := ((.bool x191000_3) :: (.slice none 0 0) :: Arr.arL .i8 x191002_3)) (show w62.heap[gb190]? = some (.cells (⟨(.bool x191000_3) :: (.slice none 0 0) :: Arr.arL .i8 x191002_3⟩ : Array Value) 45 (0, 0)) from by (with_reducible repeat (first | refine blk_drewN ?_ _ | refine blk_drew ?_ | refine blk_alloc ?_ _)); exact BK190.out) rfl (by simp [Arr.arL_length]) (n := 18) (by kernel_rfl) (by simp [Arr.arL_length]) (Arr.ones_2 rfl rfl) ?_; (case ho => rfl); (case hg => rfl); (case hn => rfl); (case hx => first | (go_simp; done) | rfl | (go_simp; rfl)); (case hy => first | (go_simp; done) | rfl | (go_simp; rfl)); intro w63 hbx hg hbe; replace hbx : w63.heap[gb190]? = some (.cells (⟨(.bool false) :: (.slice none 0 0) :: Arr.arL .i8 (Vector.replicate 16 0 : Vector Int 16)⟩ : Array Value) 45 (0, 0)) := hbx; have n0_ := Aside0.mk (Kd.R_grown1 (by (with_reducible repeat (first | apply Kd.R_alloc | apply Kd.R_drewN | apply Kd.R_drew)); exact HO_200001.out) rfl hg (Kd.R_ne HO_200001.out BK190.out (by decide))); have n1_ := Aside0.mk (hbx); have n2_ := Aside0.mk (blk_grown (g := gb199) (o := .cells (⟨(.bool ((rdOf ByteArray.empty t191 0).toList == ([115, 116, 111, 99, 107] : List UInt8))) :: (u200001) :: Arr.arL .i8 x200002_2⟩ : Array Value) 45 (0, 0)) (by (with_reducible repeat (first | refine blk_drewN ?_ _ | refine blk_drew ?_ | refine blk_alloc ?_ _)); exact BK199.out) hg (fun e_ => NB199_190.out (Option.some.inj e_))); have n3_ := Aside0.mk (hbe _ _ (by repeat (first | (with_reducible first | exact HB.out | apply below_alloc | apply pw_below_drewN | apply below_drew1 | refine below_set ?_ GE190.out | refine below_set ?_ GE199.out) | exact HB.out)) GE190.out); clear HO_200001; clear BK190; clear BK199; clear HB; have HO_200001 := n0_; have BK190 := n1_; have BK199 := n2_; have HB := n3_; clear n0_ n1_ n2_ n3_; (try clear hbx hg hbe)))
                                        refine bodyPost_ret (results_ct rfl _ _ gb190 45 (⟨(.bool false) :: (.slice none 0 0) :: Arr.arL .i8 (Vector.replicate 16 0 : Vector Int 16)⟩ : Array Value) (0, 0) _ rfl (by (with_reducible repeat (first | refine blk_drewN ?_ _ | refine blk_drew ?_ | refine blk_alloc ?_ _)); exact BK190.out) Tryd.underlying45 rfl (by rw [show (Tryd.prog.info? 45).map (·.size) = some 18 from by kernel_rfl]; simp [Arr.arL_length])) rfl ?_
                                        exact ⟨_, by first | rfl | (simp [errW_none, errW_some] <;> rfl) | (simp [*, errW_none, errW_some] <;> rfl), by first | exact Kd.R_nil _ _ _ _ _ | exact Kd.N_nil _ _ _ _ _ | exact Kd.V_nil _ _ _ _ _ | exact Kd.Q_nil _ _ _ _ _ | exact Kd.S_nil _ _ _ _ _, by repeat (first | (with_reducible first | exact HB.out | apply below_alloc | apply pw_below_drewN | apply below_drew1 | refine below_set ?_ GE190.out | refine below_set ?_ GE199.out) | exact HB.out)⟩
                                      · rw [if_neg c60] at H
                                        have c60b0 : decide (200 < t211) = false := decide_eq_false c60
                                        clear c60
                                        by_cases c64 : x200001_3.length < 35184372088832
                                        · rw [if_pos c64] at H
                                          have LMc64 := Aside0.mk c64
                                          clear c64
                                          obtain ⟨y213, hy213⟩ : ∃ y_ : List (S62), y_ = (x200001_3 ++ [(⟨IntKind.i8.wrap (t210), IntKind.i16.wrap (t211)⟩ : S62)]) := ⟨_, rfl⟩
                                          replace H : (impl_ReadHalf.l1 k3 y204 (y204.length : Int) (wrap64 (x79_3 + 1)) ((rdOf ByteArray.empty t191 0).toList == ([115, 116, 111, 99, 107] : List UInt8)) y213 x200002_2) = some (r1, r2, r3, r4) := by first | (rw [hy213]; with_reducible exact H) | (have H2_ := (Option.bind_some _ _).symm.trans H; rw [hy213]; with_reducible exact H2_) | (have H2_ := (Option.bind_some _ _).symm.trans H; with_reducible exact H2_) | with_reducible exact H | (rw [hy213]; exact H) | exact H
                                          have Ny213 := Aside0.mk hy213
                                          clear hy213
                                          have H' := Aside0.mk H
                                          clear H
                                          have p209 : 0 ≤ (x79_3 : Int) := of_decide_eq_true (by first | (with_reducible assumption) | assumption)
                                          have q209 : x79_3 < (y204.length : Int) := of_decide_eq_true (by first | (with_reducible assumption) | assumption)
                                          obtain ⟨ad209, e209, hx209_0⟩ := Kd.at_string HR207.out x79_3 p209 q209
                                          cases e209
                                          replace hx209_0 := (cell_blk BF0.out BF.out (blk_cutA KA43.out ADF.out _)).trans hx209_0
                                          replace p209 := eq_true p209
                                          replace q209 := eq_true q209
                                          have p51 : 0 ≤ (0 : Int) := (by omega)
                                          have q51 : 0 < (rdOf ByteArray.empty y204 x79_3).size := (by have : (0 : Int) < ((rdOf ByteArray.empty y204 x79_3).size : Int) := of_decide_eq_true (by first | (with_reducible assumption) | assumption); omega)
                                          have hx51 : ∀ h : 0 < (rdOf ByteArray.empty y204 x79_3).size, (((rdOf ByteArray.empty y204 x79_3)[0]'h).toNat : Int) = bt (rdOf ByteArray.empty y204 x79_3) 0 := bt_at (rdOf ByteArray.empty y204 x79_3) 0
                                          clear p51
                                          have qi51 : (0 < ((rdOf ByteArray.empty y204 x79_3).size : Int)) = True := eq_true (of_decide_eq_true (by first | (with_reducible assumption) | assumption))
                                          replace q51 := eq_true q51
                                          go_wp2_with (first | ((with_reducible refine gate_callee (f := 56) rfl ?_); refine goesL_ (some 88) rfl rfl Tryd.func56 (by kernel_rfl) rfl #[.string (⟨#[100, 115, 108, 118, 99, 109]⟩ : ByteArray), .int .u8 (bt (rdOf ByteArray.empty y204 x79_3) 0)] rfl (by (try simp only [List.map_toArray, List.map_cons, List.map_nil]); first | done | (go_simp; done) | rfl | (simp only [List.length_drop, List.length_take]; rfl)) ?_; (with_reducible refine (strings_IndexByte.calls (⟨#[100, 115, 108, 118, 99, 109]⟩ : ByteArray) (bt (rdOf ByteArray.empty y204 x79_3) 0) t210 _ A52.out).mono ?_); rintro e w65 ⟨rfl, hb⟩; refine ⟨_, rfl, ?_⟩; have nf_ := Aside0.mk (blk_below (g := gf) (o := .cells curf 9 (0, 0)) (by (with_reducible repeat (first | refine blk_drewN ?_ _ | refine blk_drew ?_ | refine blk_alloc ?_ _)); exact BF.out) hb); have n0_ := Aside0.mk (Kd.R_below (by (with_reducible repeat (first | apply Kd.R_alloc | apply Kd.R_drewN | apply Kd.R_drew)); exact HO_200001.out) hb); have n1_ := Aside0.mk (blk_below (g := gb190) (o := .cells (⟨(.bool x191000_3) :: (.slice none 0 0) :: Arr.arL .i8 x191002_3⟩ : Array Value) 45 (0, 0)) (by (with_reducible repeat (first | refine blk_drewN ?_ _ | refine blk_drew ?_ | refine blk_alloc ?_ _)); exact BK190.out) hb); have n2_ := Aside0.mk (blk_below (g := gb199) (o := .cells (⟨(.bool ((rdOf ByteArray.empty t191 0).toList == ([115, 116, 111, 99, 107] : List UInt8))) :: (u200001) :: Arr.arL .i8 x200002_2⟩ : Array Value) 45 (0, 0)) (by (with_reducible repeat (first | refine blk_drewN ?_ _ | refine blk_drew ?_ | refine blk_alloc ?_ _)); exact BK199.out) hb); have n3_ := Aside0.mk (below_step (by repeat (first | (with_reducible first | exact HB.out | apply below_alloc | apply pw_below_drewN | apply below_drew1 | refine below_set ?_ GE190.out | refine below_set ?_ GE199.out) | exact HB.out)) hb); clear BF; have BF := nf_; clear nf_; clear HO_200001; clear BK190; clear BK199; clear HB; have HO_200001 := n0_; have BK190 := n1_; have BK199 := n2_; have HB := n3_; clear n0_ n1_ n2_ n3_; (try clear hb); (try clear hb2); (try clear hk); (try clear hi)) | ((with_reducible refine gate_callee (f := 55) rfl ?_); refine goesL_ (some 92) rfl rfl Tryd.func55 (by kernel_rfl) rfl #[.string ((rdOf ByteArray.empty y204 x79_3).extract 1 (rdOf ByteArray.empty y204 x79_3).size)] rfl (by (try simp only [List.map_toArray, List.map_cons, List.map_nil]); first | done | (go_simp; done) | rfl | (simp only [List.length_drop, List.length_take]; rfl)) ?_; (with_reducible refine (impl_number.calls k3 ((rdOf ByteArray.empty y204 x79_3).extract 1 (rdOf ByteArray.empty y204 x79_3).size) t211 true _ A54.out).mono ?_); rintro e w' ⟨rfl, ⟨nd, rfl⟩⟩; refine ⟨_, rfl, ?_⟩; (try (rw [drewN_self w65]; generalize hq_ : World.drewN w65 _ = w65; have nf_ : Aside0 (w65.heap[gf]? = some (.cells curf 9 (0, 0))) := ⟨by rw [← hq_]; exact (by (with_reducible repeat (first | refine blk_drewN ?_ _ | refine blk_drew ?_ | refine blk_alloc ?_ _)); exact BF.out)⟩; have n0_ : Aside0 (Kd.R k62 62 w65 w.heap.size (fun _ => True) u200001 x200001_3) := ⟨by rw [← hq_]; exact (by (with_reducible repeat (first | apply Kd.R_alloc | apply Kd.R_drewN | apply Kd.R_drew)); exact HO_200001.out)⟩; have n1_ : Aside0 (w65.heap[gb190]? = some (.cells (⟨(.bool x191000_3) :: (.slice none 0 0) :: Arr.arL .i8 x191002_3⟩ : Array Value) 45 (0, 0))) := ⟨by rw [← hq_]; exact (by (with_reducible repeat (first | refine blk_drewN ?_ _ | refine blk_drew ?_ | refine blk_alloc ?_ _)); exact BK190.out)⟩; have n2_ : Aside0 (w65.heap[gb199]? = some (.cells (⟨(.bool ((rdOf ByteArray.empty t191 0).toList == ([115, 116, 111, 99, 107] : List UInt8))) :: (u200001) :: Arr.arL .i8 x200002_2⟩ : Array Value) 45 (0, 0))) := ⟨by rw [← hq_]; exact (by (with_reducible repeat (first | refine blk_drewN ?_ _ | refine blk_drew ?_ | refine blk_alloc ?_ _)); exact BK199.out)⟩; have n3_ : Aside0 (Below w.heap.size w w65) := ⟨by rw [← hq_]; exact (by repeat (first | (with_reducible first | exact HB.out | apply below_alloc | apply pw_below_drewN | apply below_drew1 | refine below_set ?_ GE190.out | refine below_set ?_ GE199.out) | exact HB.out))⟩; clear HO_200001 BK190 BK199 HB BF hq_; have BF := nf_; clear nf_; have HO_200001 := n0_; have BK190 := n1_; have BK199 := n2_; have HB := n3_; clear n0_ n1_ n2_ n3_)); have hnb66 := NB199_190.out; have hnc66 := NB190_199.out; have hcz67_0 : w65.cell? ⟨gb199, 0, none⟩ = some (.bool ((rdOf ByteArray.empty t191 0).toList == ([115, 116, 111, 99, 107] : List UInt8))) := (blk_cell BK199.out 0).trans rfl; have hcz67_1 : w65.cell? ⟨gb199, 1, none⟩ = some (u200001) := (blk_cell BK199.out 1).trans rfl; have hfz67_0 := blk_frozen BK199.out 0; have hfz67_1 := blk_frozen BK199.out 1) | ((with_reducible refine gate_builtin (b := .append) (xs := #[.tmp 107, .tmp 113]) rfl ?_); (try (refine gate_guard (by rfl) ?_; dsimp only)); at_builtin; refine Kd.R_append k62 (w0 := w) w.heap.size rfl (.tmp 107) (.tmp 113) 42 62 (.agg #[(.int .i8 0), (.int .i16 0)]) 4 rfl Tryd.underlying42 info62 rfl (by decide) (by omega) u200001 x200001_3 (⟨IntKind.i8.wrap (t210), IntKind.i16.wrap (t211)⟩ : S62) [.int .i8 (IntKind.i8.wrap (t210)), .int .i16 (IntKind.i16.wrap (t211))] (fun _ => True) (fun _ => False) rfl rfl ?aP (fun _ hk => hk.elim) ?aF ?aO ?aB ?aS ?aL ?_; (case aP => exact k62_mkM _ _ _ (⟨IntKind.i8.wrap (t210), IntKind.i16.wrap (t211)⟩ : S62)); (case aB => exact (by repeat (first | (with_reducible first | exact HB.out | apply below_alloc | apply pw_below_drewN | apply below_drew1 | refine below_set ?_ GE190.out | refine below_set ?_ GE199.out) | exact HB.out))); (case aF => exact (fun _ _ => trivial)); (case aO => exact (by (with_reducible repeat (first | apply Kd.R_alloc | apply Kd.R_drewN | apply Kd.R_drew)); exact HO_200001.out)); (case aS => exact (below_size (by repeat (first | (with_reducible first | exact HB.out | apply below_alloc | apply pw_below_drewN | apply below_drew1 | refine below_set ?_ GE190.out | refine below_set ?_ GE199.out) | exact HB.out)))); (case aL => have := LMc64.out; omega); intro v214 w68 ho hb hg hat; rw [← Ny213.out] at ho; have nf_ := Aside0.mk (blk_grown (g := gf) (o := .cells curf 9 (0, 0)) (by (with_reducible repeat (first | refine blk_drewN ?_ _ | refine blk_drew ?_ | refine blk_alloc ?_ _)); exact BF.out) hg (Kd.R_ne HO_200001.out BF.out (by decide))); have n0_ := Aside0.mk (blk_grown (g := gb190) (o := .cells (⟨(.bool x191000_3) :: (.slice none 0 0) :: Arr.arL .i8 x191002_3⟩ : Array Value) 45 (0, 0)) (by (with_reducible repeat (first | refine blk_drewN ?_ _ | refine blk_drew ?_ | refine blk_alloc ?_ _)); exact BK190.out) hg (Kd.R_ne HO_200001.out BK190.out (by decide))); have n1_ := Aside0.mk (blk_grown (g := gb199) (o := .cells (⟨(.bool ((rdOf ByteArray.empty t191 0).toList == ([115, 116, 111, 99, 107] : List UInt8))) :: (u200001) :: Arr.arL .i8 x200002_2⟩ : Array Value) 45 (0, 0)) (by (with_reducible repeat (first | refine blk_drewN ?_ _ | refine blk_drew ?_ | refine blk_alloc ?_ _)); exact BK199.out) hg (Kd.R_ne HO_200001.out BK199.out (by decide))); have n2_ := Aside0.mk (hb); have n3_ := Aside0.mk (ho); clear BF; have BF := nf_; clear nf_; clear BK190; clear BK199; clear HB; clear HO_200001; have BK190 := n0_; have BK199 := n1_; have HB := n2_; have HO215 := n3_; clear n0_ n1_ n2_ n3_; clear ho hb hg hat; obtain ⟨Ao69, co69, eo69⟩ := Kd.R_slice HO215.out; subst eo69; have hcz70_0 : w68.cell? ⟨gb199, 0, none⟩ = some (.bool ((rdOf ByteArray.empty t191 0).toList == ([115, 116, 111, 99, 107] : List UInt8))) := (blk_cell BK199.out 0).trans rfl; have hcz70_1 : w68.cell? ⟨gb199, 1, none⟩ = some (u200001) := (blk_cell BK199.out 1).trans rfl; have hfz70_0 := blk_frozen BK199.out 0; have hfz70_1 := blk_frozen BK199.out 1))
                                          go_roundg k3
                                          case measure => have := HJ2.out; have := HK2.out; have := HK3.out; omega
                                          case rel => exact ⟨(wrap64 (x79_3 + 1)), (x191000_3), (x191002_3), (y213), (.slice Ao69 y213.length co69), (by first | rfl | (simp; done) | (simp [*]; done)), H', ⟨by have := HJ2.out; have := HK2.out; have := HK3.out; omega⟩, ⟨by (with_reducible repeat (first | apply Kd.R_alloc | apply Kd.R_drewN | apply Kd.R_drew)); exact Kd.R_mono (Kd.R_far (p := ⟨gb199, 1, none⟩) (Kd.R_types HO215.out BK199.out (by decide)) (fun _ hk => hk.2) (.slice Ao69 y213.length co69)) (fun _ hk => trivial)⟩, ⟨by (with_reducible repeat (first | refine blk_drewN ?_ _ | refine blk_drew ?_ | refine blk_alloc ?_ _)); refine blk_far ?_ NB190_199.out _; (with_reducible repeat (first | refine blk_drewN ?_ _ | refine blk_drew ?_ | refine blk_alloc ?_ _)); exact BK190.out⟩, ⟨by (with_reducible repeat (first | refine blk_drewN ?_ _ | refine blk_drew ?_ | refine blk_alloc ?_ _)); refine blk_put (cs := (⟨(.bool ((rdOf ByteArray.empty t191 0).toList == ([115, 116, 111, 99, 107] : List UInt8))) :: (u200001) :: Arr.arL .i8 x200002_2⟩ : Array Value)) ?_ 1 _ rfl; (with_reducible repeat (first | refine blk_drewN ?_ _ | refine blk_drew ?_ | refine blk_alloc ?_ _)); exact BK199.out⟩, ⟨by (with_reducible repeat (first | refine blk_drewN ?_ _ | refine blk_drew ?_ | refine blk_alloc ?_ _)); refine blk_far ?_ NBF.out _; (with_reducible repeat (first | refine blk_drewN ?_ _ | refine blk_drew ?_ | refine blk_alloc ?_ _)); exact BF.out⟩, ⟨by repeat (first | (with_reducible first | exact HB.out | apply below_alloc | apply pw_below_drewN | apply below_drew1 | refine below_set ?_ GE190.out | refine below_set ?_ GE199.out) | exact HB.out)⟩⟩
                                        · rw [if_neg c64] at H
                                          exact absurd H (by simp)
                                    · replace c59 := Bool.eq_false_iff.mpr c59
                                      subst c59
                                      have H1 : (some (false, ([] : List (S62)), (Vector.replicate 16 0 : Vector Int 16), 5)) = some (r1, r2, r3, r4) := by rw [if_neg (show ¬ (false = true) by decide)] at H; exact H
                                      clear H
                                      have H := H1
                                      clear H1
                                      simp only [Option.some.injEq, Prod.mk.injEq] at H
                                      obtain ⟨rfl, rfl, rfl, rfl⟩ := H
                                      have p209 : 0 ≤ (x79_3 : Int) := of_decide_eq_true (by first | (with_reducible assumption) | assumption)
                                      have q209 : x79_3 < (y204.length : Int) := of_decide_eq_true (by first | (with_reducible assumption) | assumption)
                                      obtain ⟨ad209, e209, hx209_0⟩ := Kd.at_string HR207.out x79_3 p209 q209
                                      cases e209
                                      replace hx209_0 := (cell_blk BF0.out BF.out (blk_cutA KA43.out ADF.out _)).trans hx209_0
                                      replace p209 := eq_true p209
                                      replace q209 := eq_true q209
                                      have p51 : 0 ≤ (0 : Int) := (by omega)
                                      have q51 : 0 < (rdOf ByteArray.empty y204 x79_3).size := (by have : (0 : Int) < ((rdOf ByteArray.empty y204 x79_3).size : Int) := of_decide_eq_true (by first | (with_reducible assumption) | assumption); omega)
                                      have hx51 : ∀ h : 0 < (rdOf ByteArray.empty y204 x79_3).size, (((rdOf ByteArray.empty y204 x79_3)[0]'h).toNat : Int) = bt (rdOf ByteArray.empty y204 x79_3) 0 := bt_at (rdOf ByteArray.empty y204 x79_3) 0
                                      clear p51
                                      have qi51 : (0 < ((rdOf ByteArray.empty y204 x79_3).size : Int)) = True := eq_true (of_decide_eq_true (by first | (with_reducible assumption) | assumption))
                                      replace q51 := eq_true q51
                                      go_wp2_with (first | ((with_reducible refine gate_callee (f := 56) rfl ?_); refine goesL_ (some 88) rfl rfl Tryd.func56 (by kernel_rfl) rfl #[.string (⟨#[100, 115, 108, 118, 99, 109]⟩ : ByteArray), .int .u8 (bt (rdOf ByteArray.empty y204 x79_3) 0)] rfl (by (try simp only [List.map_toArray, List.map_cons, List.map_nil]); first | done | (go_simp; done) | rfl | (simp only [List.length_drop, List.length_take]; rfl)) ?_; (with_reducible refine (strings_IndexByte.calls (⟨#[100, 115, 108, 118, 99, 109]⟩ : ByteArray) (bt (rdOf ByteArray.empty y204 x79_3) 0) t210 _ A52.out).mono ?_); rintro e w72 ⟨rfl, hb⟩; refine ⟨_, rfl, ?_⟩; have n0_ := Aside0.mk (Kd.R_below (by (with_reducible repeat (first | apply Kd.R_alloc | apply Kd.R_drewN | apply Kd.R_drew)); exact HO_200001.out) hb); have n1_ := Aside0.mk (blk_below (g := gb190) (o := .cells (⟨(.bool x191000_3) :: (.slice none 0 0) :: Arr.arL .i8 x191002_3⟩ : Array Value) 45 (0, 0)) (by (with_reducible repeat (first | refine blk_drewN ?_ _ | refine blk_drew ?_ | refine blk_alloc ?_ _)); exact BK190.out) hb); have n2_ := Aside0.mk (blk_below (g := gb199) (o := .cells (⟨(.bool ((rdOf ByteArray.empty t191 0).toList == ([115, 116, 111, 99, 107] : List UInt8))) :: (u200001) :: Arr.arL .i8 x200002_2⟩ : Array Value) 45 (0, 0)) (by (with_reducible repeat (first | refine blk_drewN ?_ _ | refine blk_drew ?_ | refine blk_alloc ?_ _)); exact BK199.out) hb); have n3_ := Aside0.mk (below_step (by repeat (first | (with_reducible first | exact HB.out | apply below_alloc | apply pw_below_drewN | apply below_drew1 | refine below_set ?_ GE190.out | refine below_set ?_ GE199.out) | exact HB.out)) hb); clear HO_200001; clear BK190; clear BK199; clear HB; have HO_200001 := n0_; have BK190 := n1_; have BK199 := n2_; have HB := n3_; clear n0_ n1_ n2_ n3_; (try clear hb); (try clear hb2); (try clear hk); (try clear hi)) | ((with_reducible refine gate_callee (f := 55) rfl ?_); refine goesL_ (some 92) rfl rfl Tryd.func55 (by kernel_rfl) rfl #[.string ((rdOf ByteArray.empty y204 x79_3).extract 1 (rdOf ByteArray.empty y204 x79_3).size)] rfl (by (try simp only [List.map_toArray, List.map_cons, List.map_nil]); first | done | (go_simp; done) | rfl | (simp only [List.length_drop, List.length_take]; rfl)) ?_; (with_reducible refine (impl_number.calls k3 ((rdOf ByteArray.empty y204 x79_3).extract 1 (rdOf ByteArray.empty y204 x79_3).size) t211 false _ A54.out).mono ?_); rintro e w' ⟨rfl, ⟨nd, rfl⟩⟩; refine ⟨_, rfl, ?_⟩) | ((with_reducible refine gate_store (t := 45) (p := 2) rfl ?_); refine Arr.storeA ?hg (T := 45) (p := 2) (v := ?vo_w73) ?ho ?hn (g := gb190) (off := 0) ?hx (m := ((.bool false) :: (.slice none 0 0) :: Arr.arL .i8 (Vector.replicate 16 0 : Vector Int 16))) ?hy (t := 45) (pre := []) (old := ((.bool x191000_3) :: (.slice none 0 0) :: Arr.arL .i8 x191002_3)) (show w72.heap[gb190]? = some (.cells (⟨(.bool x191000_3) :: (.slice none 0 0) :: Arr.arL .i8 x191002_3⟩ : Array Value) 45 (0, 0)) from by (with_reducible repeat (first | refine blk_drewN ?_ _ | refine blk_drew ?_ | refine blk_alloc ?_ _)); exact BK190.out) rfl (by simp [Arr.arL_length]) (n := 18) (by kernel_rfl) (by simp [Arr.arL_length]) (Arr.ones_2 rfl rfl) ?_; (case ho => rfl); (case hg => rfl); (case hn => rfl); (case hx => first | (go_simp; done) | rfl | (go_simp; rfl)); (case hy => first | (go_simp; done) | rfl | (go_simp; rfl)); intro w73 hbx hg hbe; replace hbx : w73.heap[gb190]? = some (.cells (⟨(.bool false) :: (.slice none 0 0) :: Arr.arL .i8 (Vector.replicate 16 0 : Vector Int 16)⟩ : Array Value) 45 (0, 0)) := hbx; have n0_ := Aside0.mk (Kd.R_grown1 (by (with_reducible repeat (first | apply Kd.R_alloc | apply Kd.R_drewN | apply Kd.R_drew)); exact HO_200001.out) rfl hg (Kd.R_ne HO_200001.out BK190.out (by decide))); have n1_ := Aside0.mk (hbx); have n2_ := Aside0.mk (blk_grown (g := gb199) (o := .cells (⟨(.bool ((rdOf ByteArray.empty t191 0).toList == ([115, 116, 111, 99, 107] : List UInt8))) :: (u200001) :: Arr.arL .i8 x200002_2⟩ : Array Value) 45 (0, 0)) (by (with_reducible repeat (first | refine blk_drewN ?_ _ | refine blk_drew ?_ | refine blk_alloc ?_ _)); exact BK199.out) hg (fun e_ => NB199_190.out (Option.some.inj e_))); have n3_ := Aside0.mk (hbe _ _ (by repeat (first | (with_reducible first | exact HB.out | apply below_alloc | apply pw_below_drewN | apply below_drew1 | refine below_set ?_ GE190.out | refine below_set ?_ GE199.out) | exact HB.out)) GE190.out); clear HO_200001; clear BK190; clear BK199; clear HB; have HO_200001 := n0_; have BK190 := n1_; have BK199 := n2_; have HB := n3_; clear n0_ n1_ n2_ n3_; (try clear hbx hg hbe)))
                                      refine bodyPost_ret (results_ct rfl _ _ gb190 45 (⟨(.bool false) :: (.slice none 0 0) :: Arr.arL .i8 (Vector.replicate 16 0 : Vector Int 16)⟩ : Array Value) (0, 0) _ rfl (by (with_reducible repeat (first | refine blk_drewN ?_ _ | refine blk_drew ?_ | refine blk_alloc ?_ _)); exact BK190.out) Tryd.underlying45 rfl (by rw [show (Tryd.prog.info? 45).map (·.size) = some 18 from by kernel_rfl]; simp [Arr.arL_length])) rfl ?_
                                      exact ⟨_, by first | rfl | (simp [errW_none, errW_some] <;> rfl) | (simp [*, errW_none, errW_some] <;> rfl), by first | exact Kd.R_nil _ _ _ _ _ | exact Kd.N_nil _ _ _ _ _ | exact Kd.V_nil _ _ _ _ _ | exact Kd.Q_nil _ _ _ _ _ | exact Kd.S_nil _ _ _ _ _, by repeat (first | (with_reducible first | exact HB.out | apply below_alloc | apply pw_below_drewN | apply below_drew1 | refine below_set ?_ GE190.out | refine below_set ?_ GE199.out) | exact HB.out)⟩
                                · rw [if_neg c53] at H
                                  exact absurd H (by simp)
                              · rw [if_neg c50] at H
                                exact absurd H (by simp)
                          · rw [if_neg c46] at H
                            exact absurd H (by simp)
                        · rw [if_neg c45] at H
                          exact absurd H (by simp)
                      · rw [if_neg c44] at H
                        have c44b0 : decide (x79_3 < (y204.length : Int)) = false := decide_eq_false c44
                        clear c44
                        replace H := Option.bind_eq_some_iff.mp H
                        obtain ⟨t208, A750, H⟩ := H
                        replace H : (if t208 = true then (some (((rdOf ByteArray.empty t191 0).toList == ([115, 116, 111, 99, 107] : List UInt8)), x200001_3, x200002_2, 0)) else (some (false, ([] : List (S62)), (Vector.replicate 16 0 : Vector Int 16), 5))) = some (r1, r2, r3, r4) := H
                        have A75 := Aside0.mk A750
                        clear A750
                        by_cases c76 : t208 = true
                        · subst c76
                          have H1 : (some (((rdOf ByteArray.empty t191 0).toList == ([115, 116, 111, 99, 107] : List UInt8)), x200001_3, x200002_2, 0)) = some (r1, r2, r3, r4) := by rw [if_pos rfl] at H; exact H
                          clear H
                          have H := H1
                          clear H1
                          simp only [Option.some.injEq, Prod.mk.injEq] at H
                          obtain ⟨rfl, rfl, rfl, rfl⟩ := H
                          go_wp2_with (first | ((with_reducible refine Arr.gate_load (t := 45) (p := 5) rfl ?_); (try (refine gate_guard (by rfl) ?_; dsimp only)); refine Arr.loadA ?hg (T := 45) (p := 5) ?ho (g := gb199) (off := 0) ?hx (t := 45) (l := ((.bool ((rdOf ByteArray.empty t191 0).toList == ([115, 116, 111, 99, 107] : List UInt8))) :: (u200001) :: Arr.arL .i8 x200002_2)) (m := ((.bool ((rdOf ByteArray.empty t191 0).toList == ([115, 116, 111, 99, 107] : List UInt8))) :: (u200001) :: Arr.arL .i8 x200002_2)) (fr := (0, 0)) (show wr.heap[gb199]? = some (.cells (⟨(.bool ((rdOf ByteArray.empty t191 0).toList == ([115, 116, 111, 99, 107] : List UInt8))) :: (u200001) :: Arr.arL .i8 x200002_2⟩ : Array Value) 45 (0, 0)) from by (with_reducible repeat (first | refine blk_drewN ?_ _ | refine blk_drew ?_ | refine blk_alloc ?_ _)); exact BK199.out) rfl Tryd.underlying45 rfl (n := 18) (by kernel_rfl) (by simp [Arr.arL_length]) ?_; (case hg => rfl); (case ho => rfl); (case hx => first | (go_simp; done) | rfl | (go_simp; rfl)); obtain ⟨Ao79, co79, eo79⟩ := Kd.R_slice HO_200001.out; subst eo79) | ((with_reducible refine gate_callee (f := 72) rfl ?_); refine goesL_ (some 118) rfl rfl Tryd.func72 (by kernel_rfl) rfl #[.agg (⟨(.bool ((rdOf ByteArray.empty t191 0).toList == ([115, 116, 111, 99, 107] : List UInt8))) :: (.slice Ao79 x200001_3.length co79) :: Arr.arL .i8 x200002_2⟩ : Array Value)] rfl (by (try simp only [List.map_toArray, List.map_cons, List.map_nil]); first | done | (go_simp; done) | rfl | (simp only [List.length_drop, List.length_take]; rfl)) ?_; (with_reducible refine (impl_ValidHalf.calls k3 ((rdOf ByteArray.empty t191 0).toList == ([115, 116, 111, 99, 107] : List UInt8)) _ _ x200001_3 x200002_2 true _ ?side1 ?side2 A75.out).mono ?_); (case side1 => repeat (first | exact (Kd.R_reads' HO_200001.out).2.2 | (with_reducible refine Kd.C_alloc ?_ _) | (with_reducible refine Kd.C_drewN ?_ _) | (with_reducible refine Kd.C_drew ?_))); (case side2 => exact (Kd.R_reads' HO_200001.out).2.1); rintro e w80 ⟨rfl, hb⟩; refine ⟨_, rfl, ?_⟩; have n0_ := Aside0.mk (Kd.R_below (by (with_reducible repeat (first | apply Kd.R_alloc | apply Kd.R_drewN | apply Kd.R_drew)); exact HO_200001.out) hb); have n1_ := Aside0.mk (blk_below (g := gb190) (o := .cells (⟨(.bool x191000_3) :: (.slice none 0 0) :: Arr.arL .i8 x191002_3⟩ : Array Value) 45 (0, 0)) (by (with_reducible repeat (first | refine blk_drewN ?_ _ | refine blk_drew ?_ | refine blk_alloc ?_ _)); exact BK190.out) hb); have n2_ := Aside0.mk (blk_below (g := gb199) (o := .cells (⟨(.bool ((rdOf ByteArray.empty t191 0).toList == ([115, 116, 111, 99, 107] : List UInt8))) :: (.slice Ao79 x200001_3.length co79) :: Arr.arL .i8 x200002_2⟩ : Array Value) 45 (0, 0)) (by (with_reducible repeat (first | refine blk_drewN ?_ _ | refine blk_drew ?_ | refine blk_alloc ?_ _)); exact BK199.out) hb); have n3_ := Aside0.mk (below_step (by repeat (first | (with_reducible first | exact HB.out | apply below_alloc | apply pw_below_drewN | apply below_drew1 | refine below_set ?_ GE190.out | refine below_set ?_ GE199.out) | exact HB.out)) hb); clear HO_200001; clear BK190; clear BK199; clear HB; have HO_200001 := n0_; have BK190 := n1_; have BK199 := n2_; have HB := n3_; clear n0_ n1_ n2_ n3_; (try clear hb); (try clear hb2); (try clear hk); (try clear hi)) | ((with_reducible refine Arr.gate_load (t := 45) (p := 5) rfl ?_); (try (refine gate_guard (by rfl) ?_; dsimp only)); refine Arr.loadA ?hg (T := 45) (p := 5) ?ho (g := gb199) (off := 0) ?hx (t := 45) (l := ((.bool ((rdOf ByteArray.empty t191 0).toList == ([115, 116, 111, 99, 107] : List UInt8))) :: (.slice Ao79 x200001_3.length co79) :: Arr.arL .i8 x200002_2)) (m := ((.bool ((rdOf ByteArray.empty t191 0).toList == ([115, 116, 111, 99, 107] : List UInt8))) :: (.slice Ao79 x200001_3.length co79) :: Arr.arL .i8 x200002_2)) (fr := (0, 0)) (show w80.heap[gb199]? = some (.cells (⟨(.bool ((rdOf ByteArray.empty t191 0).toList == ([115, 116, 111, 99, 107] : List UInt8))) :: (.slice Ao79 x200001_3.length co79) :: Arr.arL .i8 x200002_2⟩ : Array Value) 45 (0, 0)) from by (with_reducible repeat (first | refine blk_drewN ?_ _ | refine blk_drew ?_ | refine blk_alloc ?_ _)); exact BK199.out) rfl Tryd.underlying45 rfl (n := 18) (by kernel_rfl) (by simp [Arr.arL_length]) ?_; (case hg => rfl); (case ho => rfl); (case hx => first | (go_simp; done) | rfl | (go_simp; rfl))) | ((with_reducible refine gate_store (t := 45) (p := 2) rfl ?_); refine Arr.storeA ?hg (T := 45) (p := 2) (v := ?vo_w81) ?ho ?hn (g := gb190) (off := 0) ?hx (m := ((.bool ((rdOf ByteArray.empty t191 0).toList == ([115, 116, 111, 99, 107] : List UInt8))) :: (.slice Ao79 x200001_3.length co79) :: Arr.arL .i8 x200002_2)) ?hy (t := 45) (pre := []) (old := ((.bool x191000_3) :: (.slice none 0 0) :: Arr.arL .i8 x191002_3)) (show w80.heap[gb190]? = some (.cells (⟨(.bool x191000_3) :: (.slice none 0 0) :: Arr.arL .i8 x191002_3⟩ : Array Value) 45 (0, 0)) from by (with_reducible repeat (first | refine blk_drewN ?_ _ | refine blk_drew ?_ | refine blk_alloc ?_ _)); exact BK190.out) rfl (by simp [Arr.arL_length]) (n := 18) (by kernel_rfl) (by simp [Arr.arL_length]) (Arr.ones_2 rfl rfl) ?_; (case ho => rfl); (case hg => rfl); (case hn => rfl); (case hx => first | (go_simp; done) | rfl | (go_simp; rfl)); (case hy => first | (go_simp; done) | rfl | (go_simp; rfl)); intro w81 hbx hg hbe; replace hbx : w81.heap[gb190]? = some (.cells (⟨(.bool ((rdOf ByteArray.empty t191 0).toList == ([115, 116, 111, 99, 107] : List UInt8))) :: (.slice Ao79 x200001_3.length co79) :: Arr.arL .i8 x200002_2⟩ : Array Value) 45 (0, 0)) := hbx; have n0_ := Aside0.mk (Kd.R_grown1 (by (with_reducible repeat (first | apply Kd.R_alloc | apply Kd.R_drewN | apply Kd.R_drew)); exact HO_200001.out) rfl hg (Kd.R_ne HO_200001.out BK190.out (by decide))); have n1_ := Aside0.mk (hbx); have n2_ := Aside0.mk (blk_grown (g := gb199) (o := .cells (⟨(.bool ((rdOf ByteArray.empty t191 0).toList == ([115, 116, 111, 99, 107] : List UInt8))) :: (.slice Ao79 x200001_3.length co79) :: Arr.arL .i8 x200002_2⟩ : Array Value) 45 (0, 0)) (by (with_reducible repeat (first | refine blk_drewN ?_ _ | refine blk_drew ?_ | refine blk_alloc ?_ _)); exact BK199.out) hg (fun e_ => NB199_190.out (Option.some.inj e_))); have n3_ := Aside0.mk (hbe _ _ (by repeat (first | (with_reducible first | exact HB.out | apply below_alloc | apply pw_below_drewN | apply below_drew1 | refine below_set ?_ GE190.out | refine below_set ?_ GE199.out) | exact HB.out)) GE190.out); clear HO_200001; clear BK190; clear BK199; clear HB; have HO_200001 := n0_; have BK190 := n1_; have BK199 := n2_; have HB := n3_; clear n0_ n1_ n2_ n3_; (try clear hbx hg hbe)))
                          refine bodyPost_ret (results_ct rfl _ _ gb190 45 (⟨(.bool ((rdOf ByteArray.empty t191 0).toList == ([115, 116, 111, 99, 107] : List UInt8))) :: (.slice Ao79 x200001_3.length co79) :: Arr.arL .i8 x200002_2⟩ : Array Value) (0, 0) _ rfl (by (with_reducible repeat (first | refine blk_drewN ?_ _ | refine blk_drew ?_ | refine blk_alloc ?_ _)); exact BK190.out) Tryd.underlying45 rfl (by rw [show (Tryd.prog.info? 45).map (·.size) = some 18 from by kernel_rfl]; simp [Arr.arL_length])) rfl ?_
                          exact ⟨_, by first | rfl | (simp [errW_none, errW_some] <;> rfl) | (simp [*, errW_none, errW_some] <;> rfl), by (with_reducible repeat (first | apply Kd.R_alloc | apply Kd.R_drewN | apply Kd.R_drew)); exact HO_200001.out, by repeat (first | (with_reducible first | exact HB.out | apply below_alloc | apply pw_below_drewN | apply below_drew1 | refine below_set ?_ GE190.out | refine below_set ?_ GE199.out) | exact HB.out)⟩
                        · replace c76 := Bool.eq_false_iff.mpr c76
                          subst c76
                          have H1 : (some (false, ([] : List (S62)), (Vector.replicate 16 0 : Vector Int 16), 5)) = some (r1, r2, r3, r4) := by rw [if_neg (show ¬ (false = true) by decide)] at H; exact H
                          clear H
                          have H := H1
                          clear H1
                          simp only [Option.some.injEq, Prod.mk.injEq] at H
                          obtain ⟨rfl, rfl, rfl, rfl⟩ := H
                          go_wp2_with (first | ((with_reducible refine Arr.gate_load (t := 45) (p := 5) rfl ?_); (try (refine gate_guard (by rfl) ?_; dsimp only)); refine Arr.loadA ?hg (T := 45) (p := 5) ?ho (g := gb199) (off := 0) ?hx (t := 45) (l := ((.bool ((rdOf ByteArray.empty t191 0).toList == ([115, 116, 111, 99, 107] : List UInt8))) :: (u200001) :: Arr.arL .i8 x200002_2)) (m := ((.bool ((rdOf ByteArray.empty t191 0).toList == ([115, 116, 111, 99, 107] : List UInt8))) :: (u200001) :: Arr.arL .i8 x200002_2)) (fr := (0, 0)) (show wr.heap[gb199]? = some (.cells (⟨(.bool ((rdOf ByteArray.empty t191 0).toList == ([115, 116, 111, 99, 107] : List UInt8))) :: (u200001) :: Arr.arL .i8 x200002_2⟩ : Array Value) 45 (0, 0)) from by (with_reducible repeat (first | refine blk_drewN ?_ _ | refine blk_drew ?_ | refine blk_alloc ?_ _)); exact BK199.out) rfl Tryd.underlying45 rfl (n := 18) (by kernel_rfl) (by simp [Arr.arL_length]) ?_; (case hg => rfl); (case ho => rfl); (case hx => first | (go_simp; done) | rfl | (go_simp; rfl)); obtain ⟨Ao83, co83, eo83⟩ := Kd.R_slice HO_200001.out; subst eo83) | ((with_reducible refine gate_callee (f := 72) rfl ?_); refine goesL_ (some 118) rfl rfl Tryd.func72 (by kernel_rfl) rfl #[.agg (⟨(.bool ((rdOf ByteArray.empty t191 0).toList == ([115, 116, 111, 99, 107] : List UInt8))) :: (.slice Ao83 x200001_3.length co83) :: Arr.arL .i8 x200002_2⟩ : Array Value)] rfl (by (try simp only [List.map_toArray, List.map_cons, List.map_nil]); first | done | (go_simp; done) | rfl | (simp only [List.length_drop, List.length_take]; rfl)) ?_; (with_reducible refine (impl_ValidHalf.calls k3 ((rdOf ByteArray.empty t191 0).toList == ([115, 116, 111, 99, 107] : List UInt8)) _ _ x200001_3 x200002_2 false _ ?side1 ?side2 A75.out).mono ?_); (case side1 => repeat (first | exact (Kd.R_reads' HO_200001.out).2.2 | (with_reducible refine Kd.C_alloc ?_ _) | (with_reducible refine Kd.C_drewN ?_ _) | (with_reducible refine Kd.C_drew ?_))); (case side2 => exact (Kd.R_reads' HO_200001.out).2.1); rintro e w84 ⟨rfl, hb⟩; refine ⟨_, rfl, ?_⟩; have n0_ := Aside0.mk (Kd.R_below (by (with_reducible repeat (first | apply Kd.R_alloc | apply Kd.R_drewN | apply Kd.R_drew)); exact HO_200001.out) hb); have n1_ := Aside0.mk (blk_below (g := gb190) (o := .cells (⟨(.bool x191000_3) :: (.slice none 0 0) :: Arr.arL .i8 x191002_3⟩ : Array Value) 45 (0, 0)) (by (with_reducible repeat (first | refine blk_drewN ?_ _ | refine blk_drew ?_ | refine blk_alloc ?_ _)); exact BK190.out) hb); have n2_ := Aside0.mk (blk_below (g := gb199) (o := .cells (⟨(.bool ((rdOf ByteArray.empty t191 0).toList == ([115, 116, 111, 99, 107] : List UInt8))) :: (.slice Ao83 x200001_3.length co83) :: Arr.arL .i8 x200002_2⟩ : Array Value) 45 (0, 0)) (by (with_reducible repeat (first | refine blk_drewN ?_ _ | refine blk_drew ?_ | refine blk_alloc ?_ _)); exact BK199.out) hb); have n3_ := Aside0.mk (below_step (by repeat (first | (with_reducible first | exact HB.out | apply below_alloc | apply pw_below_drewN | apply below_drew1 | refine below_set ?_ GE190.out | refine below_set ?_ GE199.out) | exact HB.out)) hb); clear HO_200001; clear BK190; clear BK199; clear HB; have HO_200001 := n0_; have BK190 := n1_; have BK199 := n2_; have HB := n3_; clear n0_ n1_ n2_ n3_; (try clear hb); (try clear hb2); (try clear hk); (try clear hi)) | ((with_reducible refine gate_store (t := 45) (p := 2) rfl ?_); refine Arr.storeA ?hg (T := 45) (p := 2) (v := ?vo_w85) ?ho ?hn (g := gb190) (off := 0) ?hx (m := ((.bool false) :: (.slice none 0 0) :: Arr.arL .i8 (Vector.replicate 16 0 : Vector Int 16))) ?hy (t := 45) (pre := []) (old := ((.bool x191000_3) :: (.slice none 0 0) :: Arr.arL .i8 x191002_3)) (show w84.heap[gb190]? = some (.cells (⟨(.bool x191000_3) :: (.slice none 0 0) :: Arr.arL .i8 x191002_3⟩ : Array Value) 45 (0, 0)) from by (with_reducible repeat (first | refine blk_drewN ?_ _ | refine blk_drew ?_ | refine blk_alloc ?_ _)); exact BK190.out) rfl (by simp [Arr.arL_length]) (n := 18) (by kernel_rfl) (by simp [Arr.arL_length]) (Arr.ones_2 rfl rfl) ?_; (case ho => rfl); (case hg => rfl); (case hn => rfl); (case hx => first | (go_simp; done) | rfl | (go_simp; rfl)); (case hy => first | (go_simp; done) | rfl | (go_simp; rfl)); intro w85 hbx hg hbe; replace hbx : w85.heap[gb190]? = some (.cells (⟨(.bool false) :: (.slice none 0 0) :: Arr.arL .i8 (Vector.replicate 16 0 : Vector Int 16)⟩ : Array Value) 45 (0, 0)) := hbx; have n0_ := Aside0.mk (Kd.R_grown1 (by (with_reducible repeat (first | apply Kd.R_alloc | apply Kd.R_drewN | apply Kd.R_drew)); exact HO_200001.out) rfl hg (Kd.R_ne HO_200001.out BK190.out (by decide))); have n1_ := Aside0.mk (hbx); have n2_ := Aside0.mk (blk_grown (g := gb199) (o := .cells (⟨(.bool ((rdOf ByteArray.empty t191 0).toList == ([115, 116, 111, 99, 107] : List UInt8))) :: (.slice Ao83 x200001_3.length co83) :: Arr.arL .i8 x200002_2⟩ : Array Value) 45 (0, 0)) (by (with_reducible repeat (first | refine blk_drewN ?_ _ | refine blk_drew ?_ | refine blk_alloc ?_ _)); exact BK199.out) hg (fun e_ => NB199_190.out (Option.some.inj e_))); have n3_ := Aside0.mk (hbe _ _ (by repeat (first | (with_reducible first | exact HB.out | apply below_alloc | apply pw_below_drewN | apply below_drew1 | refine below_set ?_ GE190.out | refine below_set ?_ GE199.out) | exact HB.out)) GE190.out); clear HO_200001; clear BK190; clear BK199; clear HB; have HO_200001 := n0_; have BK190 := n1_; have BK199 := n2_; have HB := n3_; clear n0_ n1_ n2_ n3_; (try clear hbx hg hbe)))
                          refine bodyPost_ret (results_ct rfl _ _ gb190 45 (⟨(.bool false) :: (.slice none 0 0) :: Arr.arL .i8 (Vector.replicate 16 0 : Vector Int 16)⟩ : Array Value) (0, 0) _ rfl (by (with_reducible repeat (first | refine blk_drewN ?_ _ | refine blk_drew ?_ | refine blk_alloc ?_ _)); exact BK190.out) Tryd.underlying45 rfl (by rw [show (Tryd.prog.info? 45).map (·.size) = some 18 from by kernel_rfl]; simp [Arr.arL_length])) rfl ?_
                          exact ⟨_, by first | rfl | (simp [errW_none, errW_some] <;> rfl) | (simp [*, errW_none, errW_some] <;> rfl), by first | exact Kd.R_nil _ _ _ _ _ | exact Kd.N_nil _ _ _ _ _ | exact Kd.V_nil _ _ _ _ _ | exact Kd.Q_nil _ _ _ _ _ | exact Kd.S_nil _ _ _ _ _, by repeat (first | (with_reducible first | exact HB.out | apply below_alloc | apply pw_below_drewN | apply below_drew1 | refine below_set ?_ GE190.out | refine below_set ?_ GE199.out) | exact HB.out)⟩
                · rw [if_neg c42] at H
                  exact absurd H (by simp)
        · rw [if_neg c21] at H
          exact absurd H (by simp)

end Go.Proofs.YtfjmljgbdejghaaDoor.MReadHalf
