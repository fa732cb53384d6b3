-- by a program of this session, for this claim
import Derived.Test.YtfjmljgbdejghaaDoorMHalfTextx0
import Derived.Test.YtfjmljgbdejghaaDoorMHalfTextx3
namespace Go.Proofs.YtfjmljgbdejghaaDoor.MHalfText
open Go.RowKit Go.Proofs.YtfjmljgbdejghaaDoorW.PrintWords Go.Proofs.YtfjmljgbdejghaaDoorW.PrintLast Go.Proofs.YtfjmljgbdejghaaDoorW.PrintMore
attribute [local go_sem] max2_int min2_int max_two min_two max_three min_three max_four min_four   -- for this text's walks alone
set_option linter.unusedVariables false
set_option linter.unusedSimpArgs false

/-! ### spec_l01Text: function 69 -/
mutual
def spec_l01Text.j0 : Nat → ByteArray → Bool → List (S62) → Vector Int 16 → Option (ByteArray)
  | 0, _, _, _, _ => none
  | k + 1, x3, x1000, x1001, x1002 => spec_l01Text.l0 k x3 0 x1000 x1001 x1002
def spec_l01Text.l0 : Nat → ByteArray → Int → Bool → List (S62) → Vector Int 16 → Option (ByteArray)
  | 0, _, _, _, _, _ => none
  | k + 1, x3, x4, x1000, x1001, x1002 => if x4 < 16 then (if 0 ≤ x4 then ((some (([(wrap64 (100 + (wrap64 (Arr.vrd x1002 x4)))) % 256] : List Int) : List Int)).bind fun y129 => (if x3.size + (strOfNums y129).size ≤ 9223372036854775807 then (spec_l01Text.l0 k (x3 ++ (strOfNums y129)) (wrap64 (x4 + 1)) x1000 x1001 x1002) else (none))) else (none)) else (spec_l01Text.l1 k x3 0 x1000 x1001 x1002)
def spec_l01Text.l1 : Nat → ByteArray → Int → Bool → List (S62) → Vector Int 16 → Option (ByteArray)
  | 0, _, _, _, _, _ => none
  | k + 1, x3, x5, x1000, x1001, x1002 => if x5 < (x1001.length : Int) then (if 0 ≤ x5 then ((spec_l01Letters.f).bind fun t134 => (if 0 ≤ ((rd_T62 x1001 x5).f0) then (if ((rd_T62 x1001 x5).f0) ≤ (IntKind.i8.wrap (((rd_T62 x1001 x5).f0) + 1)) then (if (IntKind.i8.wrap (((rd_T62 x1001 x5).f0) + 1)) ≤ (t134.size : Int) then (if 1 + (t134.extract (((rd_T62 x1001 x5).f0) : Int).toNat ((IntKind.i8.wrap (((rd_T62 x1001 x5).f0) + 1)) : Int).toNat).size ≤ 9223372036854775807 then ((spec_Decimal.f k (wrap64 ((rd_T62 x1001 x5).f1))).bind fun t135 => (if ((⟨#[32]⟩ : ByteArray) ++ (t134.extract (((rd_T62 x1001 x5).f0) : Int).toNat ((IntKind.i8.wrap (((rd_T62 x1001 x5).f0) + 1)) : Int).toNat)).size + t135.size ≤ 9223372036854775807 then (if x3.size + (((⟨#[32]⟩ : ByteArray) ++ (t134.extract (((rd_T62 x1001 x5).f0) : Int).toNat ((IntKind.i8.wrap (((rd_T62 x1001 x5).f0) + 1)) : Int).toNat)) ++ t135).size ≤ 9223372036854775807 then (spec_l01Text.l1 k (x3 ++ (((⟨#[32]⟩ : ByteArray) ++ (t134.extract (((rd_T62 x1001 x5).f0) : Int).toNat ((IntKind.i8.wrap (((rd_T62 x1001 x5).f0) + 1)) : Int).toNat)) ++ t135)) (wrap64 (x5 + 1)) x1000 x1001 x1002) else (none)) else (none))) else (none)) else (none)) else (none)) else (none))) else (none)) else (some x3)
end
def spec_l01Text.f (k : Nat) (a0_0 : Bool) (l0_1 : List (S62)) (a0_2 : Vector Int 16) : Option (ByteArray) := if a0_0 = true then (spec_l01Text.j0 k (⟨#[115, 116, 111, 99, 107, 32]⟩ : ByteArray) a0_0 l0_1 a0_2) else (spec_l01Text.j0 k (⟨#[102, 111, 105, 108, 32]⟩ : ByteArray) a0_0 l0_1 a0_2)
theorem spec_l01Text.mono_l : ∀ k, (∀ y0 y1 y2 y3, LeO (spec_l01Text.j0 k y0 y1 y2 y3) (spec_l01Text.j0 (k + 1) y0 y1 y2 y3)) ∧ (∀ y0 y1 y2 y3 y4, LeO (spec_l01Text.l0 k y0 y1 y2 y3 y4) (spec_l01Text.l0 (k + 1) y0 y1 y2 y3 y4)) ∧ (∀ y0 y1 y2 y3 y4, LeO (spec_l01Text.l1 k y0 y1 y2 y3 y4) (spec_l01Text.l1 (k + 1) y0 y1 y2 y3 y4))
  | 0 => ⟨fun _ _ _ _ r h => by simp [spec_l01Text.j0] at h, fun _ _ _ _ _ r h => by simp [spec_l01Text.l0] at h, fun _ _ _ _ _ r h => by simp [spec_l01Text.l1] at h⟩
  | k + 1 => by
    obtain ⟨ih0, ih1, ih2⟩ := spec_l01Text.mono_l k
    refine ⟨?_, ?_, ?_⟩
    · intro y0 y1 y2 y3
      unfold spec_l01Text.j0
      repeat' first
      | (with_reducible exact ih0 _ _ _ _)
      | (with_reducible exact ih1 _ _ _ _ _)
      | (with_reducible exact ih2 _ _ _ _ _)
      | (with_reducible exact spec_Decimal.mono _ _)
      | (with_reducible exact LeO.refl _)
      | (with_reducible exact LeO.none _)
      | (with_reducible refine LeO.ite ?_ ?_)
      | (with_reducible refine LeO.bind ?_ (fun _ => ?_))
      | exact ih0 _ _ _ _
      | exact ih1 _ _ _ _ _
      | exact ih2 _ _ _ _ _
      | exact spec_Decimal.mono _ _
      | exact LeO.none _
      | refine LeO.ite ?_ ?_
      | refine LeO.bind ?_ (fun _ => ?_)
    · intro y0 y1 y2 y3 y4
      unfold spec_l01Text.l0
      repeat' first
      | (with_reducible exact ih0 _ _ _ _)
      | (with_reducible exact ih1 _ _ _ _ _)
      | (with_reducible exact ih2 _ _ _ _ _)
      | (with_reducible exact spec_Decimal.mono _ _)
      | (with_reducible exact LeO.refl _)
      | (with_reducible exact LeO.none _)
      | (with_reducible refine LeO.ite ?_ ?_)
      | (with_reducible refine LeO.bind ?_ (fun _ => ?_))
      | exact ih0 _ _ _ _
      | exact ih1 _ _ _ _ _
      | exact ih2 _ _ _ _ _
      | exact spec_Decimal.mono _ _
      | exact LeO.none _
      | refine LeO.ite ?_ ?_
      | refine LeO.bind ?_ (fun _ => ?_)
    · intro y0 y1 y2 y3 y4
      unfold spec_l01Text.l1
      repeat' first
      | (with_reducible exact ih0 _ _ _ _)
      | (with_reducible exact ih1 _ _ _ _ _)
      | (with_reducible exact ih2 _ _ _ _ _)
      | (with_reducible exact spec_Decimal.mono _ _)
      | (with_reducible exact LeO.refl _)
      | (with_reducible exact LeO.none _)
      | (with_reducible refine LeO.ite ?_ ?_)
      | (with_reducible refine LeO.bind ?_ (fun _ => ?_))
      | exact ih0 _ _ _ _
      | exact ih1 _ _ _ _ _
      | exact ih2 _ _ _ _ _
      | exact spec_Decimal.mono _ _
      | exact LeO.none _
      | refine LeO.ite ?_ ?_
      | refine LeO.bind ?_ (fun _ => ?_)
theorem spec_l01Text.mono : ∀ a0 a1 a2 k, LeO (spec_l01Text.f k a0 a1 a2) (spec_l01Text.f (k + 1) a0 a1 a2) := by
  intro a0 a1 a2 k
  obtain ⟨ih0, ih1, ih2⟩ := spec_l01Text.mono_l k
  unfold spec_l01Text.f
  repeat' first
      | (with_reducible exact ih0 _ _ _ _)
      | (with_reducible exact ih1 _ _ _ _ _)
      | (with_reducible exact ih2 _ _ _ _ _)
      | (with_reducible exact spec_Decimal.mono _ _)
      | (with_reducible exact LeO.refl _)
      | (with_reducible exact LeO.none _)
      | (with_reducible refine LeO.ite ?_ ?_)
      | (with_reducible refine LeO.bind ?_ (fun _ => ?_))
      | exact ih0 _ _ _ _
      | exact ih1 _ _ _ _ _
      | exact ih2 _ _ _ _ _
      | exact spec_Decimal.mono _ _
      | exact LeO.none _
      | refine LeO.ite ?_ ?_
      | refine LeO.bind ?_ (fun _ => ?_)
def spec_l01Text.T12 : Bool × List (List Nat × List Nat) := (true, [([], []), ([], []), ([], []), ([2], [2]), ([], []), ([4], [4]), ([5], [5]), ([1, 3, 6], [1, 3, 6]), ([7], [7]), ([], []), ([9], [9]), ([10], [10]), ([11, 1], [11]), ([8, 12], [8, 12]), ([0, 13], [0, 13]), ([14, 12, 0, 1, 2, 3, 4, 5, 6, 7, 8, 9, 10, 11, 12, 13, 14], [0, 14])])
def spec_l01Text.B12 : List Nat := [0, 0, 0, 4, 0, 16, 48, 126, 254, 0, 512, 1536, 3586, 8190, 16383, 32767]
theorem spec_l01Text.tab12 : rtab .any (opsOf Tryd.f69 12) = spec_l01Text.T12 := by kernel_rfl
theorem spec_l01Text.bits12 : waitsOk spec_l01Text.T12.2 spec_l01Text.B12 = true := by kernel_rfl
set_option maxHeartbeats 8000000 in
set_option maxRecDepth 100000 in
theorem spec_l01Text.calls (k : Nat) (g0 : Nat) (a0_0 : Bool) (A0_1 : Option Addr) (c0_1 : Nat) (l0_1 : List (S62)) (a0_2 : Vector Int 16) (r : ByteArray) (w : World) (hb0 : w.heap[g0]? = some (.cells (⟨(.bool a0_0) :: (.slice A0_1 l0_1.length c0_1) :: Arr.arL .i8 a0_2⟩ : Array Value) 45 (0, 0))) (hr0_1 : Kd.C k62 w A0_1 l0_1.length l0_1) (hc0_1 : l0_1.length ≤ c0_1) (h : spec_l01Text.f k a0_0 l0_1 a0_2 = some r) :
    Calls Tryd.prog 69 #[.pointer (some ⟨g0, 0, none⟩)] w fun e w' => e = .returned (.string r) ∧ Below w.heap.size w w' := by
  have hu62 := Tryd.underlying62
  have HR0_1 := Aside0.mk hr0_1
  have HC0_1 := Aside0.mk hc0_1
  clear hr0_1 hc0_1
  have BK0 := Aside0.mk hb0
  have hcp0_0 := (blk_cell hb0 0).trans rfl
  have hcp0_1 := (blk_cell hb0 1).trans rfl
  clear hb0
  have HB := Aside0.mk (Below.refl w.heap.size w)
  have H : (if a0_0 = true then (spec_l01Text.j0 k (⟨#[115, 116, 111, 99, 107, 32]⟩ : ByteArray) a0_0 l0_1 a0_2) else (spec_l01Text.j0 k (⟨#[102, 111, 105, 108, 32]⟩ : ByteArray) a0_0 l0_1 a0_2)) = some r := h
  clear h
  have HC2 := Aside0.mk H
  clear H
  have hcz3_0 : w.cell? ⟨g0, 0, none⟩ = some (.bool a0_0) := (blk_cell BK0.out 0).trans rfl
  have hcz3_1 : w.cell? ⟨g0, 1, none⟩ = some (.slice A0_1 l0_1.length c0_1) := (blk_cell BK0.out 1).trans rfl
  have hfz3_0 := blk_frozen BK0.out 0
  have hfz3_1 := blk_frozen BK0.out 1
  go_enter Tryd.func69, Tryd.ntmps69
  go_upto_if 10 with (fail)
  go_cut [3] (fun v3 wc => ∃ (kq : Nat) (x3_1 : ByteArray), v3 = .string x3_1 ∧ Aside0 (spec_l01Text.j0 kq x3_1 a0_0 l0_1 a0_2 = some r) ∧ Aside0 (kq ≤ k) ∧ Aside0 (wc.heap[g0]? = some (.cells (⟨(.bool a0_0) :: ((.slice A0_1 l0_1.length c0_1)) :: Arr.arL .i8 a0_2⟩ : Array Value) 45 (0, 0))) ∧ Aside0 (Below w.heap.size w wc))
  case first =>
    have H := HC2.out
    clear HC2
    by_cases c4 : a0_0 = true
    · subst c4
      have H1 : (spec_l01Text.j0 k (⟨#[115, 116, 111, 99, 107, 32]⟩ : ByteArray) true l0_1 a0_2) = some r := by rw [if_pos rfl] at H; exact H
      clear H
      have H := H1
      clear H1
      have H' := Aside0.mk H
      clear H
      go_wp2
      go_meet
      case rel => exact ⟨_, ((⟨#[115, 116, 111, 99, 107, 32]⟩ : ByteArray)), (by first | rfl | (simp; done) | (simp [*]; done)), H', ⟨by first | omega | exact Nat.le_refl _⟩, ⟨by (with_reducible repeat (first | refine blk_drewN ?_ _ | refine blk_drew ?_ | refine blk_alloc ?_ _)); exact BK0.out⟩, ⟨by repeat (first | (with_reducible first | exact HB.out | apply below_alloc | apply pw_below_drewN | apply below_drew1 | refine below_set ?_ GE0.out) | exact HB.out)⟩⟩
    · replace c4 := Bool.eq_false_iff.mpr c4
      subst c4
      have H1 : (spec_l01Text.j0 k (⟨#[102, 111, 105, 108, 32]⟩ : ByteArray) false l0_1 a0_2) = some r := by rw [if_neg (show ¬ (false = true) by decide)] at H; exact H
      clear H
      have H := H1
      clear H1
      have H' := Aside0.mk H
      clear H
      go_wp2
      go_meet
      case rel => exact ⟨_, ((⟨#[102, 111, 105, 108, 32]⟩ : ByteArray)), (by first | rfl | (simp; done) | (simp [*]; done)), H', ⟨by first | omega | exact Nat.le_refl _⟩, ⟨by (with_reducible repeat (first | refine blk_drewN ?_ _ | refine blk_drew ?_ | refine blk_alloc ?_ _)); exact BK0.out⟩, ⟨by repeat (first | (with_reducible first | exact HB.out | apply below_alloc | apply pw_below_drewN | apply below_drew1 | refine below_set ?_ GE0.out) | exact HB.out)⟩⟩
  case rest =>
    clear HC2
    try clear p2
    try clear c4
    try clear hcz3_0
    try clear hcz3_1
    try clear hfz3_0
    try clear hfz3_1
    obtain ⟨kq, x3_1, rfl, HA, HJ1, BK0, HB⟩ := hcut
    cases kq with
    | zero => exact absurd HA.out (by simp [spec_l01Text.j0])
    | succ kj1 =>
      have H := HA.out
      clear HA
      simp only [spec_l01Text.j0] at H
      have H' := Aside0.mk H
      clear H
      go_wp2
      go_loopg [3, 4] kj1 (fun kq v3 v4 w' => ∃ (x3_2 : ByteArray) (x4_2 : Int), v3 = .string x3_2 ∧ v4 = .int .i64 x4_2 ∧ Aside0 (spec_l01Text.l0 kq x3_2 x4_2 a0_0 l0_1 a0_2 = some r) ∧ Aside0 (kq ≤ kj1) ∧ Aside0 (w'.heap[g0]? = some (.cells (⟨(.bool a0_0) :: ((.slice A0_1 l0_1.length c0_1)) :: Arr.arL .i8 a0_2⟩ : Array Value) 45 (0, 0))) ∧ Aside0 (Below w.heap.size w w'))
      case atStart => exact ⟨(x3_1), (0), (by first | rfl | (simp; done) | (simp [*]; done)), (by first | rfl | (simp; done) | (simp [*]; done)), H', ⟨Nat.le_refl _⟩, ⟨by (with_reducible repeat (first | refine blk_drewN ?_ _ | refine blk_drew ?_ | refine blk_alloc ?_ _)); exact BK0.out⟩, ⟨by repeat (first | (with_reducible first | exact HB.out | apply below_alloc | apply pw_below_drewN | apply below_drew1 | refine below_set ?_ GE0.out) | exact HB.out)⟩⟩
      case round =>
        clear H'
        try clear p2
        try clear c4
        try clear hcz3_0
        try clear hcz3_1
        try clear hfz3_0
        try clear hfz3_1
        try clear p2
        obtain ⟨x3_2, x4_2, rfl, rfl, HA, HK2, BK0, HB⟩ := hrel
        cases gk with
        | zero => exact absurd HA.out (by simp [spec_l01Text.l0])
        | succ k2 =>
          have H := HA.out
          clear HA
          simp only [spec_l01Text.l0] at H
          by_cases c5 : x4_2 < 16
          · rw [if_pos c5] at H
            have c5b0 : decide (x4_2 < 16) = true := decide_eq_true c5
            clear c5
            by_cases c6 : 0 ≤ x4_2
            · rw [if_pos c6] at H
              have c6b0 : decide (0 ≤ x4_2) = true := decide_eq_true c6
              clear c6
              obtain ⟨y129, hy129⟩ : ∃ y_ : List Int, y_ = (([(wrap64 (100 + (wrap64 (Arr.vrd a0_2 x4_2)))) % 256] : List Int)) := ⟨_, rfl⟩
              replace H : (if x3_2.size + (strOfNums y129).size ≤ 9223372036854775807 then (spec_l01Text.l0 k2 (x3_2 ++ (strOfNums y129)) (wrap64 (x4_2 + 1)) a0_0 l0_1 a0_2) else (none)) = some r := by first | (rw [hy129]; with_reducible exact H) | (have H2_ := (Option.bind_some _ _).symm.trans H; rw [hy129]; with_reducible exact H2_) | (have H2_ := (Option.bind_some _ _).symm.trans H; with_reducible exact H2_) | with_reducible exact H | (rw [hy129]; exact H) | exact H
              have Ny129 := Aside0.mk hy129
              clear hy129
              by_cases c9 : x3_2.size + (strOfNums y129).size ≤ 9223372036854775807
              · rw [if_pos c9] at H
                have c9b0 := eq_true c9
                have c9b1 : decide (x3_2.size + (strOfNums y129).size ≤ 9223372036854775807) = true := decide_eq_true c9
                try have c9b2 : (9223372036854775807 < x3_2.size + (strOfNums y129).size) = False := eq_false (Nat.not_lt.2 c9)
                try (have c9b3 := c9b2; simp only [go_sem, List.size_toArray, List.length_cons, List.length_nil, Nat.zero_add] at c9b3)
                have H' := Aside0.mk H
                clear H
                have p7 : 0 ≤ (x4_2 : Int) := of_decide_eq_true (by first | (with_reducible assumption) | assumption)
                have q7 : (x4_2 : Int) < 16 := of_decide_eq_true (by first | (with_reducible assumption) | assumption)
                replace p7 := eq_true p7
                replace q7 := eq_true q7
                have hx8 : wr.cell? ⟨g0, 2 + x4_2.toNat, none⟩ = some (.int .i8 (Arr.vrd a0_2 x4_2)) := Arr.cellN (off := 2) (l := ((.bool a0_0) :: (.slice A0_1 l0_1.length c0_1) :: Arr.arL .i8 a0_2)) (show wr.heap[g0]? = some (.cells (⟨(.bool a0_0) :: (.slice A0_1 l0_1.length c0_1) :: Arr.arL .i8 a0_2⟩ : Array Value) 45 (0, 0)) from by (with_reducible repeat (first | refine blk_drewN ?_ _ | refine blk_drew ?_ | refine blk_alloc ?_ _)); exact BK0.out) rfl (2 + x4_2.toNat) (x4_2.toNat) (by omega) (by have a0_ := of_eq_true p7; have b0_ := of_eq_true q7; omega)
                have hf8 := blk_frozen (show wr.heap[g0]? = some (.cells (⟨(.bool a0_0) :: (.slice A0_1 l0_1.length c0_1) :: Arr.arL .i8 a0_2⟩ : Array Value) 45 (0, 0)) from by (with_reducible repeat (first | refine blk_drewN ?_ _ | refine blk_drew ?_ | refine blk_alloc ?_ _)); exact BK0.out) (2 + x4_2.toNat)
                go_wp2_with (first | ((with_reducible refine gate_dst (N := 25) rfl ?_); refine Kd.R_lit (Kd.int .u8) _ 5 ?hg (N := 25) ?hd (xs := ([(wrap64 (100 + (wrap64 (Arr.vrd a0_2 x4_2)))) % 256] : List Int)) (inner := [.int .u8 ((wrap64 (100 + (wrap64 (Arr.vrd a0_2 x4_2)))) % 256)]) (ok := fun _ => True) (okp := fun _ => True) ?hr ?hp (fun _ hk => hk) trivial (Below.refl _ _) (Nat.le_refl _) (by simp) ?_; (case hd => rfl); (case hg => rfl); (case hr => first | (go_simp; done) | (go_simp; rfl)); (case hp => exact (Reps.one (show Kd.M (Kd.int .u8) _ _ _ ((wrap64 (100 + (wrap64 (Arr.vrd a0_2 x4_2)))) % 256) [.int .u8 ((wrap64 (100 + (wrap64 (Arr.vrd a0_2 x4_2)))) % 256)] from rfl) (Reps.none _ _))); intro v130 w10 ho11 hb hg_ hnew_; clear hg_ hnew_; (first | rw [← Ny129.out] at ho11 | (simp only [Int.reduceToNat] at ho11; rw [← Ny129.out] at ho11)); have n0_ := Aside0.mk (Kd.R_lower ho11 (below_size (by repeat (first | (with_reducible first | exact HB.out | apply below_alloc | apply pw_below_drewN | apply below_drew1 | refine below_set ?_ GE0.out) | exact HB.out)))); have n1_ := Aside0.mk (blk_below (g := g0) (o := .cells (⟨(.bool a0_0) :: (.slice A0_1 l0_1.length c0_1) :: Arr.arL .i8 a0_2⟩ : Array Value) 45 (0, 0)) (by (with_reducible repeat (first | refine blk_drewN ?_ _ | refine blk_drew ?_ | refine blk_alloc ?_ _)); exact BK0.out) hb); have n2_ := Aside0.mk (below_step (by repeat (first | (with_reducible first | exact HB.out | apply below_alloc | apply pw_below_drewN | apply below_drew1 | refine below_set ?_ GE0.out) | exact HB.out)) hb); clear BK0; clear HB; have HO131 := n0_; have BK0 := n1_; have HB := n2_; clear n0_ n1_ n2_; clear hb ho11; have hcv12 := own_string (P := Tryd.prog) Tryd.underlying52 Tryd.underlying5 Tryd.underlying9 (Kd.own_of_R HO131.out)))
                go_roundg k2
                case measure => have := HJ1.out; have := HK2.out; omega
                case rel => exact ⟨(x3_2 ++ (strOfNums y129)), (wrap64 (x4_2 + 1)), (by first | rfl | (simp; done) | (simp [*]; done)), (by first | rfl | (simp; done) | (simp [*]; done)), H', ⟨by have := HJ1.out; have := HK2.out; omega⟩, ⟨by (with_reducible repeat (first | refine blk_drewN ?_ _ | refine blk_drew ?_ | refine blk_alloc ?_ _)); exact BK0.out⟩, ⟨by repeat (first | (with_reducible first | exact HB.out | apply below_alloc | apply pw_below_drewN | apply below_drew1 | refine below_set ?_ GE0.out) | exact HB.out)⟩⟩
              · rw [if_neg c9] at H
                exact absurd H (by simp)
            · rw [if_neg c6] at H
              exact absurd H (by simp)
          · rw [if_neg c5] at H
            have c5b0 : decide (x4_2 < 16) = false := decide_eq_false c5
            clear c5
            have H' := Aside0.mk H
            clear H
            go_wp2
            go_loopg [3, 5] k2 (fun kq v3 v5 w' => ∃ (x3_3 : ByteArray) (x5_3 : Int), v3 = .string x3_3 ∧ v5 = .int .i64 x5_3 ∧ Aside0 (spec_l01Text.l1 kq x3_3 x5_3 a0_0 l0_1 a0_2 = some r) ∧ Aside0 (kq ≤ k2) ∧ Aside0 (w'.heap[g0]? = some (.cells (⟨(.bool a0_0) :: ((.slice A0_1 l0_1.length c0_1)) :: Arr.arL .i8 a0_2⟩ : Array Value) 45 (0, 0))) ∧ Aside0 (Below w.heap.size w w'))
            case atStart => exact ⟨(x3_2), (0), (by first | rfl | (simp; done) | (simp [*]; done)), (by first | rfl | (simp; done) | (simp [*]; done)), H', ⟨Nat.le_refl _⟩, ⟨by (with_reducible repeat (first | refine blk_drewN ?_ _ | refine blk_drew ?_ | refine blk_alloc ?_ _)); exact BK0.out⟩, ⟨by repeat (first | (with_reducible first | exact HB.out | apply below_alloc | apply pw_below_drewN | apply below_drew1 | refine below_set ?_ GE0.out) | exact HB.out)⟩⟩
            case round =>
              clear H'
              try clear hcv1
              try clear p2
              try clear c4
              try clear c5
              try clear c5b0
              try clear c6
              try clear c6b0
              try clear p6
              try clear p7
              try clear q7
              try clear hx8
              try clear hf8
              try clear c9
              try clear c9b0
              try clear c9b1
              try clear c9b2
              try clear hcv12
              try clear hcz3_0
              try clear hcz3_1
              try clear hfz3_0
              try clear hfz3_1
              try clear p2
              try clear p7
              try clear q7
              obtain ⟨x3_3, x5_3, rfl, rfl, HA, HK3, BK0, HB⟩ := hrel
              cases gk with
              | zero => exact absurd HA.out (by simp [spec_l01Text.l1])
              | succ k3 =>
                have H := HA.out
                clear HA
                simp only [spec_l01Text.l1] at H
                by_cases c13 : x5_3 < (l0_1.length : Int)
                · rw [if_pos c13] at H
                  have c13b0 : decide (x5_3 < (l0_1.length : Int)) = true := decide_eq_true c13
                  clear c13
                  by_cases c14 : 0 ≤ x5_3
                  · rw [if_pos c14] at H
                    have c14b0 : decide (0 ≤ x5_3) = true := decide_eq_true c14
                    clear c14
                    replace H := Option.bind_eq_some_iff.mp H
                    obtain ⟨t134, A150, H⟩ := H
                    replace H : (if 0 ≤ ((rd_T62 l0_1 x5_3).f0) then (if ((rd_T62 l0_1 x5_3).f0) ≤ (IntKind.i8.wrap (((rd_T62 l0_1 x5_3).f0) + 1)) then (if (IntKind.i8.wrap (((rd_T62 l0_1 x5_3).f0) + 1)) ≤ (t134.size : Int) then (if 1 + (t134.extract (((rd_T62 l0_1 x5_3).f0) : Int).toNat ((IntKind.i8.wrap (((rd_T62 l0_1 x5_3).f0) + 1)) : Int).toNat).size ≤ 9223372036854775807 then ((spec_Decimal.f k3 (wrap64 ((rd_T62 l0_1 x5_3).f1))).bind fun t135 => (if ((⟨#[32]⟩ : ByteArray) ++ (t134.extract (((rd_T62 l0_1 x5_3).f0) : Int).toNat ((IntKind.i8.wrap (((rd_T62 l0_1 x5_3).f0) + 1)) : Int).toNat)).size + t135.size ≤ 9223372036854775807 then (if x3_3.size + (((⟨#[32]⟩ : ByteArray) ++ (t134.extract (((rd_T62 l0_1 x5_3).f0) : Int).toNat ((IntKind.i8.wrap (((rd_T62 l0_1 x5_3).f0) + 1)) : Int).toNat)) ++ t135).size ≤ 9223372036854775807 then (spec_l01Text.l1 k3 (x3_3 ++ (((⟨#[32]⟩ : ByteArray) ++ (t134.extract (((rd_T62 l0_1 x5_3).f0) : Int).toNat ((IntKind.i8.wrap (((rd_T62 l0_1 x5_3).f0) + 1)) : Int).toNat)) ++ t135)) (wrap64 (x5_3 + 1)) a0_0 l0_1 a0_2) else (none)) else (none))) else (none)) else (none)) else (none)) else (none)) = some r := H
                    have A15 := Aside0.mk A150
                    clear A150
                    by_cases c16 : 0 ≤ ((rd_T62 l0_1 x5_3).f0)
                    · rw [if_pos c16] at H
                      have c16b0 := eq_true c16
                      have c16b1 : decide (0 ≤ ((rd_T62 l0_1 x5_3).f0)) = true := decide_eq_true c16
                      clear c16
                      by_cases c17 : ((rd_T62 l0_1 x5_3).f0) ≤ (IntKind.i8.wrap (((rd_T62 l0_1 x5_3).f0) + 1))
                      · rw [if_pos c17] at H
                        have c17b0 := eq_true c17
                        have c17b1 : decide (((rd_T62 l0_1 x5_3).f0) ≤ (IntKind.i8.wrap (((rd_T62 l0_1 x5_3).f0) + 1))) = true := decide_eq_true c17
                        by_cases c18 : (IntKind.i8.wrap (((rd_T62 l0_1 x5_3).f0) + 1)) ≤ (t134.size : Int)
                        · rw [if_pos c18] at H
                          have c18b0 := eq_true c18
                          have c18b1 : decide ((IntKind.i8.wrap (((rd_T62 l0_1 x5_3).f0) + 1)) ≤ (t134.size : Int)) = true := decide_eq_true c18
                          by_cases c19 : 1 + (t134.extract (((rd_T62 l0_1 x5_3).f0) : Int).toNat ((IntKind.i8.wrap (((rd_T62 l0_1 x5_3).f0) + 1)) : Int).toNat).size ≤ 9223372036854775807
                          · rw [if_pos c19] at H
                            have c19b0 := eq_true c19
                            have c19b1 : decide (1 + (t134.extract (((rd_T62 l0_1 x5_3).f0) : Int).toNat ((IntKind.i8.wrap (((rd_T62 l0_1 x5_3).f0) + 1)) : Int).toNat).size ≤ 9223372036854775807) = true := decide_eq_true c19
                            try have c19b2 : (9223372036854775807 < 1 + (t134.extract (((rd_T62 l0_1 x5_3).f0) : Int).toNat ((IntKind.i8.wrap (((rd_T62 l0_1 x5_3).f0) + 1)) : Int).toNat).size) = False := eq_false (Nat.not_lt.2 c19)
                            try (have c19b3 := c19b2; simp only [go_sem, List.size_toArray, List.length_cons, List.length_nil, Nat.zero_add] at c19b3)
                            try have c19b4 : (9223372036854775807 < 1 + (((IntKind.i8.wrap (((rd_T62 l0_1 x5_3).f0) + 1)) : Int).toNat - (((rd_T62 l0_1 x5_3).f0) : Int).toNat)) = False := eq_false (by have h_ := c19; simp only [go_sem, List.size_toArray, List.length_cons, List.length_nil, Nat.zero_add, ByteArray.size_extract] at h_; omega)
                            replace H := Option.bind_eq_some_iff.mp H
                            obtain ⟨t135, A200, H⟩ := H
                            replace H : (if ((⟨#[32]⟩ : ByteArray) ++ (t134.extract (((rd_T62 l0_1 x5_3).f0) : Int).toNat ((IntKind.i8.wrap (((rd_T62 l0_1 x5_3).f0) + 1)) : Int).toNat)).size + t135.size ≤ 9223372036854775807 then (if x3_3.size + (((⟨#[32]⟩ : ByteArray) ++ (t134.extract (((rd_T62 l0_1 x5_3).f0) : Int).toNat ((IntKind.i8.wrap (((rd_T62 l0_1 x5_3).f0) + 1)) : Int).toNat)) ++ t135).size ≤ 9223372036854775807 then (spec_l01Text.l1 k3 (x3_3 ++ (((⟨#[32]⟩ : ByteArray) ++ (t134.extract (((rd_T62 l0_1 x5_3).f0) : Int).toNat ((IntKind.i8.wrap (((rd_T62 l0_1 x5_3).f0) + 1)) : Int).toNat)) ++ t135)) (wrap64 (x5_3 + 1)) a0_0 l0_1 a0_2) else (none)) else (none)) = some r := H
                            have A20 := Aside0.mk A200
                            clear A200
                            by_cases c21 : ((⟨#[32]⟩ : ByteArray) ++ (t134.extract (((rd_T62 l0_1 x5_3).f0) : Int).toNat ((IntKind.i8.wrap (((rd_T62 l0_1 x5_3).f0) + 1)) : Int).toNat)).size + t135.size ≤ 9223372036854775807
                            · rw [if_pos c21] at H
                              have c21b0 := eq_true c21
                              have c21b1 : decide (((⟨#[32]⟩ : ByteArray) ++ (t134.extract (((rd_T62 l0_1 x5_3).f0) : Int).toNat ((IntKind.i8.wrap (((rd_T62 l0_1 x5_3).f0) + 1)) : Int).toNat)).size + t135.size ≤ 9223372036854775807) = true := decide_eq_true c21
                              try have c21b2 : (9223372036854775807 < ((⟨#[32]⟩ : ByteArray) ++ (t134.extract (((rd_T62 l0_1 x5_3).f0) : Int).toNat ((IntKind.i8.wrap (((rd_T62 l0_1 x5_3).f0) + 1)) : Int).toNat)).size + t135.size) = False := eq_false (Nat.not_lt.2 c21)
                              try (have c21b3 := c21b2; simp only [go_sem, List.size_toArray, List.length_cons, List.length_nil, Nat.zero_add] at c21b3)
                              try have c21b5 : (9223372036854775807 < 1 + (((IntKind.i8.wrap (((rd_T62 l0_1 x5_3).f0) + 1)) : Int).toNat - (((rd_T62 l0_1 x5_3).f0) : Int).toNat) + t135.size) = False := eq_false (by have h_ := c21; simp only [go_sem, List.size_toArray, List.length_cons, List.length_nil, Nat.zero_add, ByteArray.size_append, ByteArray.size_extract] at h_; omega)
                              by_cases c22 : x3_3.size + (((⟨#[32]⟩ : ByteArray) ++ (t134.extract (((rd_T62 l0_1 x5_3).f0) : Int).toNat ((IntKind.i8.wrap (((rd_T62 l0_1 x5_3).f0) + 1)) : Int).toNat)) ++ t135).size ≤ 9223372036854775807
                              · rw [if_pos c22] at H
                                have c22b0 := eq_true c22
                                have c22b1 : decide (x3_3.size + (((⟨#[32]⟩ : ByteArray) ++ (t134.extract (((rd_T62 l0_1 x5_3).f0) : Int).toNat ((IntKind.i8.wrap (((rd_T62 l0_1 x5_3).f0) + 1)) : Int).toNat)) ++ t135).size ≤ 9223372036854775807) = true := decide_eq_true c22
                                try have c22b2 : (9223372036854775807 < x3_3.size + (((⟨#[32]⟩ : ByteArray) ++ (t134.extract (((rd_T62 l0_1 x5_3).f0) : Int).toNat ((IntKind.i8.wrap (((rd_T62 l0_1 x5_3).f0) + 1)) : Int).toNat)) ++ t135).size) = False := eq_false (Nat.not_lt.2 c22)
                                try (have c22b3 := c22b2; simp only [go_sem, List.size_toArray, List.length_cons, List.length_nil, Nat.zero_add] at c22b3)
                                try have c22b5 : (9223372036854775807 < x3_3.size + ((1 + (((IntKind.i8.wrap (((rd_T62 l0_1 x5_3).f0) + 1)) : Int).toNat - (((rd_T62 l0_1 x5_3).f0) : Int).toNat)) + t135.size)) = False := eq_false (by have h_ := c22; simp only [go_sem, List.size_toArray, List.length_cons, List.length_nil, Nat.zero_add, ByteArray.size_append, ByteArray.size_extract] at h_; omega)
                                have H' := Aside0.mk H
                                clear H
                                have hcz23_0 : wr.cell? ⟨g0, 0, none⟩ = some (.bool a0_0) := (blk_cell BK0.out 0).trans rfl
                                have hcz23_1 : wr.cell? ⟨g0, 1, none⟩ = some (.slice A0_1 l0_1.length c0_1) := (blk_cell BK0.out 1).trans rfl
                                have hfz23_0 := blk_frozen BK0.out 0
                                have hfz23_1 := blk_frozen BK0.out 1
                                have p132 : 0 ≤ (x5_3 : Int) := of_decide_eq_true (by first | (with_reducible assumption) | assumption)
                                have q132 : x5_3 < (l0_1.length : Int) := of_decide_eq_true (by first | (with_reducible assumption) | assumption)
                                obtain ⟨ad132, e132, hx132_0, hx132_1⟩ := at_T62 HR0_1.out x5_3 p132 q132
                                cases e132
                                replace hx132_0 := (HB.out.cell (World.block_lt_of_cell? w _ hx132_0)).trans hx132_0
                                replace hx132_1 := (HB.out.cell (World.block_lt_of_cell? w _ hx132_1)).trans hx132_1
                                replace p132 := eq_true p132
                                replace q132 := eq_true q132
                                try go_wp2_with (first | ((with_reducible refine gate_dst (N := 6) rfl ?_); refine box_event ?hg (N := 6) ?hd (cs := #[.int .i8 0, .int .i16 0]) (t := 62) ?hr ?_; (case hd => rfl); (case hg => rfl); (case hr => first | (go_simp; done) | (go_simp; rfl)); intro gb133 hg w24 hbox hb; have n0_ := Aside0.mk (blk_below (g := g0) (o := .cells (⟨(.bool a0_0) :: (.slice (some ad132) l0_1.length c0_1) :: Arr.arL .i8 a0_2⟩ : Array Value) 45 (0, 0)) (by (with_reducible repeat (first | refine blk_drewN ?_ _ | refine blk_drew ?_ | refine blk_alloc ?_ _)); exact BK0.out) hb); have n1_ := Aside0.mk (below_step (by repeat (first | (with_reducible first | exact HB.out | apply below_alloc | apply pw_below_drewN | apply below_drew1 | refine below_set ?_ GE0.out) | exact HB.out)) hb); have n2_ := Aside0.mk (hbox); have n3_ := Aside0.mk ((by rw [hg]; exact (below_size (by repeat (first | (with_reducible first | exact HB.out | apply below_alloc | apply pw_below_drewN | apply below_drew1 | refine below_set ?_ GE0.out) | exact HB.out))) : w.heap.size ≤ gb133)); have n4_ := Aside0.mk ((by rw [hg]; exact (below_size (by repeat (first | (with_reducible first | exact HB.out | apply below_alloc | apply pw_below_drewN | apply below_drew1 | refine below_set ?_ GE0.out) | exact HB.out))) : w.heap.size ≤ gb133)); have n5_ := Aside0.mk ((by rw [hg]; exact Nat.ne_of_lt (blk_lt (g := g0) (o := .cells (⟨(.bool a0_0) :: (.slice (some ad132) l0_1.length c0_1) :: Arr.arL .i8 a0_2⟩ : Array Value) 45 (0, 0)) (by (with_reducible repeat (first | refine blk_drewN ?_ _ | refine blk_drew ?_ | refine blk_alloc ?_ _)); exact BK0.out)) : g0 ≠ gb133)); have n6_ := Aside0.mk ((by rw [hg]; exact Nat.ne_of_gt (blk_lt (g := g0) (o := .cells (⟨(.bool a0_0) :: (.slice (some ad132) l0_1.length c0_1) :: Arr.arL .i8 a0_2⟩ : Array Value) 45 (0, 0)) (by (with_reducible repeat (first | refine blk_drewN ?_ _ | refine blk_drew ?_ | refine blk_alloc ?_ _)); exact BK0.out)) : gb133 ≠ g0)); clear BK0; clear HB; have BK0 := n0_; have HB := n1_; have BK133 := n2_; have GW133 := n3_; have GE133 := n4_; have NB0_133 := n5_; have NB133_0 := n6_; clear n0_ n1_ n2_ n3_ n4_ n5_ n6_; clear hb hbox hg; have hnb25 := NB133_0.out; have hnc25 := NB0_133.out; have hcz26_0 : w24.cell? ⟨gb133, 0, none⟩ = some (.int .i8 0) := (blk_cell BK133.out 0).trans rfl; have hcz26_1 : w24.cell? ⟨gb133, 1, none⟩ = some (.int .i16 0) := (blk_cell BK133.out 1).trans rfl; have hfz26_0 := blk_frozen BK133.out 0; have hfz26_1 := blk_frozen BK133.out 1))
                                have n0_ : Aside0 (((w24.setCell ⟨gb133, 0, none⟩ (.int .i8 ((rd_T62 l0_1 x5_3).f0))).setCell ⟨gb133, 1, none⟩ (.int .i16 ((rd_T62 l0_1 x5_3).f1))).heap[g0]? = some (.cells (⟨(.bool a0_0) :: (.slice (some ad132) l0_1.length c0_1) :: Arr.arL .i8 a0_2⟩ : Array Value) 45 (0, 0))) := ⟨by (with_reducible repeat (first | refine blk_drewN ?_ _ | refine blk_drew ?_ | refine blk_alloc ?_ _)); refine blk_far ?_ NB0_133.out _; (with_reducible repeat (first | refine blk_drewN ?_ _ | refine blk_drew ?_ | refine blk_alloc ?_ _)); refine blk_far ?_ NB0_133.out _; (with_reducible repeat (first | refine blk_drewN ?_ _ | refine blk_drew ?_ | refine blk_alloc ?_ _)); exact BK0.out⟩
                                have n1_ : Aside0 (((w24.setCell ⟨gb133, 0, none⟩ (.int .i8 ((rd_T62 l0_1 x5_3).f0))).setCell ⟨gb133, 1, none⟩ (.int .i16 ((rd_T62 l0_1 x5_3).f1))).heap[gb133]? = some (.cells #[.int .i8 ((rd_T62 l0_1 x5_3).f0), .int .i16 ((rd_T62 l0_1 x5_3).f1)] 62 (0, 0))) := ⟨by (with_reducible repeat (first | refine blk_drewN ?_ _ | refine blk_drew ?_ | refine blk_alloc ?_ _)); refine blk_put (cs := #[.int .i8 ((rd_T62 l0_1 x5_3).f0), .int .i16 0]) ?_ 1 _ rfl; (with_reducible repeat (first | refine blk_drewN ?_ _ | refine blk_drew ?_ | refine blk_alloc ?_ _)); refine blk_put (cs := #[.int .i8 0, .int .i16 0]) ?_ 0 _ rfl; (with_reducible repeat (first | refine blk_drewN ?_ _ | refine blk_drew ?_ | refine blk_alloc ?_ _)); exact BK133.out⟩
                                have n2_ : Aside0 (Below w.heap.size w ((w24.setCell ⟨gb133, 0, none⟩ (.int .i8 ((rd_T62 l0_1 x5_3).f0))).setCell ⟨gb133, 1, none⟩ (.int .i16 ((rd_T62 l0_1 x5_3).f1)))) := ⟨by repeat (first | (with_reducible first | exact HB.out | apply below_alloc | apply pw_below_drewN | apply below_drew1 | refine below_set ?_ GE0.out | refine below_set ?_ GE133.out) | exact HB.out)⟩
                                (try clear BK0)
                                (try clear BK133)
                                (try clear HB)
                                generalize ((w24.setCell ⟨gb133, 0, none⟩ (.int .i8 ((rd_T62 l0_1 x5_3).f0))).setCell ⟨gb133, 1, none⟩ (.int .i16 ((rd_T62 l0_1 x5_3).f1))) = w27 at n0_ n1_ n2_ ⊢
                                have BK0 := n0_
                                have BK133 := n1_
                                have HB := n2_
                                clear n0_ n1_ n2_
                                have n0_ := Aside0.mk (blk_drew BK0.out)
                                have n1_ := Aside0.mk (blk_drew BK133.out)
                                have n2_ := Aside0.mk (below_drew1 HB.out)
                                clear BK0
                                clear BK133
                                clear HB
                                have BK0 := n0_
                                have BK133 := n1_
                                have HB := n2_
                                clear n0_ n1_ n2_
                                refine start_ (n := 16) (S := fun w' => w'.cell? ⟨gb133, 0, none⟩ = some (.int .i8 ((rd_T62 l0_1 x5_3).f0)) ∧ w'.cell? ⟨gb133, 1, none⟩ = some (.int .i16 ((rd_T62 l0_1 x5_3).f1))) (ds := []) #[false, false, false, false, false, false, false, false, false, false, false, false, false, false, false, false] (by kernel_rfl) rfl rfl ⟨(blk_cell BK133.out 0).trans rfl, (blk_cell BK133.out 1).trans rfl⟩ (fun hHeld => ?_); refine with_tabW spec_l01Text.tab12 spec_l01Text.bits12 (fun HT_ HW_ => ?_)
                                generalize w27.drew = w28 at BK0 BK133 HB hHeld ⊢
                                refine pure_ (i := 0) (N := some 44) (v := ?_) (a' := ?_) #[true, false, false, false, false, false, false, false, false, false, false, false, false, false, false, false] rfl rfl (any_of HT_.out (by kernel_rfl)) (fun _ _ _ h => h) (Or.inl ⟨by rfl, ?_⟩) ?_ ?_
                                rotate_left
                                · intro w'
                                  go_simp
                                  with_reducible rfl
                                rotate_left
                                · simp only [Act.put, List.setIfInBounds_toArray, List.set_cons_zero, List.set_cons_succ, i64_w, i32_w]
                                  rfl
                                refine pure_ (i := 2) (N := some 46) (v := ?_) (a' := ?_) #[true, false, true, false, false, false, false, false, false, false, false, false, false, false, false, false] rfl rfl (any_of HT_.out (by kernel_rfl)) (fun _ _ _ h => h) (Or.inl ⟨by rfl, ?_⟩) ?_ ?_
                                rotate_left
                                · intro w'
                                  go_simp
                                  with_reducible rfl
                                rotate_left
                                · simp only [Act.put, List.setIfInBounds_toArray, List.set_cons_zero, List.set_cons_succ, i64_w, i32_w]
                                  rfl
                                refine pure_ (i := 4) (N := some 48) (v := ?_) (a' := ?_) #[true, false, true, false, true, false, false, false, false, false, false, false, false, false, false, false] rfl rfl (any_of HT_.out (by kernel_rfl)) (fun _ _ _ h => h) (Or.inl ⟨by rfl, ?_⟩) ?_ ?_
                                rotate_left
                                · intro w'
                                  go_simp
                                  with_reducible rfl
                                rotate_left
                                · simp only [Act.put, List.setIfInBounds_toArray, List.set_cons_zero, List.set_cons_succ, i64_w, i32_w]
                                  rfl
                                refine pure_ (i := 9) (N := some 53) (v := ?_) (a' := ?_) #[true, false, true, false, true, false, false, false, false, true, false, false, false, false, false, false] rfl rfl (any_of HT_.out (by kernel_rfl)) (fun _ _ _ h => h) (Or.inl ⟨by rfl, ?_⟩) ?_ ?_
                                rotate_left
                                · intro w'
                                  go_simp
                                  with_reducible rfl
                                rotate_left
                                · simp only [Act.put, List.setIfInBounds_toArray, List.set_cons_zero, List.set_cons_succ, i64_w, i32_w]
                                  rfl
                                refine take_ (i := 3) (N := some 47) (v := ?_) (a' := ?_) #[true, false, true, true, true, false, false, false, false, true, false, false, false, false, false, false] rfl rfl (take_ofW HT_.out HW_.out (by kernel_rfl)) (fun _ _ _ h => h) (Or.inl ⟨by rfl, ?_⟩) hHeld ?_ ?_
                                rotate_left
                                · rintro w' ⟨s0, s1⟩
                                  go_simp
                                  with_reducible rfl
                                rotate_left
                                · simp only [Act.put, List.setIfInBounds_toArray, List.set_cons_zero, List.set_cons_succ, i64_w, i32_w]
                                  rfl
                                refine take_ (i := 5) (N := some 49) (v := ?_) (a' := ?_) #[true, false, true, true, true, true, false, false, false, true, false, false, false, false, false, false] rfl rfl (take_ofW HT_.out HW_.out (by kernel_rfl)) (fun _ _ _ h => h) (Or.inl ⟨by rfl, ?_⟩) hHeld ?_ ?_
                                rotate_left
                                · rintro w' ⟨s0, s1⟩
                                  go_simp
                                  with_reducible rfl
                                rotate_left
                                · simp only [Act.put, List.setIfInBounds_toArray, List.set_cons_zero, List.set_cons_succ, i64_w, i32_w]
                                  rfl
                                refine pure_ (i := 6) (N := some 50) (v := ?_) (a' := ?_) #[true, false, true, true, true, true, true, false, false, true, false, false, false, false, false, false] rfl rfl (any_of HT_.out (by kernel_rfl)) (fun _ _ _ h => h) (Or.inl ⟨by rfl, ?_⟩) ?_ ?_
                                rotate_left
                                · intro w'
                                  go_simp
                                  with_reducible rfl
                                rotate_left
                                · simp only [Act.put, List.setIfInBounds_toArray, List.set_cons_zero, List.set_cons_succ, i64_w, i32_w]
                                  rfl
                                refine take_ (i := 10) (N := some 54) (v := ?_) (a' := ?_) #[true, false, true, true, true, true, true, false, false, true, true, false, false, false, false, false] rfl rfl (take_ofW HT_.out HW_.out (by kernel_rfl)) (fun _ _ _ h => h) (Or.inl ⟨by rfl, ?_⟩) hHeld ?_ ?_
                                rotate_left
                                · rintro w' ⟨s0, s1⟩
                                  go_simp
                                  with_reducible rfl
                                rotate_left
                                · simp only [Act.put, List.setIfInBounds_toArray, List.set_cons_zero, List.set_cons_succ, i64_w, i32_w]
                                  rfl
                                refine pure_ (i := 11) (N := some 55) (v := ?_) (a' := ?_) #[true, false, true, true, true, true, true, false, false, true, true, true, false, false, false, false] rfl rfl (any_of HT_.out (by kernel_rfl)) (fun _ _ _ h => h) (Or.inl ⟨by rfl, ?_⟩) ?_ ?_
                                rotate_left
                                · intro w'
                                  go_simp
                                  with_reducible rfl
                                rotate_left
                                · simp only [Act.put, List.setIfInBounds_toArray, List.set_cons_zero, List.set_cons_succ, i64_w, i32_w]
                                  rfl
                                refine one_ (i := 1) (N := some 45) #[true, true, true, true, true, true, true, false, false, true, true, true, false, false, false, false] rfl rfl (one_of HT_.out (by kernel_rfl)) (by decide) (fun K hK => ?_)
                                refine goes_ Tryd.func109 (by kernel_rfl) rfl #[] (by rfl) rfl rfl (by (try simp only [List.map_toArray, List.map_cons, List.map_nil]); first | done | (go_simp; done) | rfl | (simp only [List.length_drop, List.length_take]; rfl)) ?_
                                with_reducible refine (spec_l01Letters.calls  t134 _ A15.out).mono ?_
                                rintro e w' ⟨rfl, ⟨nd, rfl⟩⟩
                                refine ⟨_, rfl, ?_⟩
                                refine hK.out _ _ ⟨(blk_cell BK133.out 0).trans rfl, (blk_cell BK133.out 1).trans rfl⟩ (fun hHeld => ?_)
                                clear hK K
                                refine norm_ (a' := ?_) ?_ ?_
                                rotate_left
                                · show Act.put _ (some 45) _ = _
                                  simp only [Act.put, List.setIfInBounds_toArray, List.set_cons_zero, List.set_cons_succ, i64_w, i32_w]
                                  rfl
                                refine pure_ (i := 7) (N := some 51) (v := ?_) (a' := ?_) #[true, true, true, true, true, true, true, true, false, true, true, true, false, false, false, false] rfl rfl (any_of HT_.out (by kernel_rfl)) (fun _ _ _ h => h) (Or.inl ⟨by rfl, ?_⟩) ?_ ?_
                                rotate_left
                                · intro w'
                                  go_simp
                                  with_reducible rfl
                                rotate_left
                                · simp only [Act.put, List.setIfInBounds_toArray, List.set_cons_zero, List.set_cons_succ, i64_w, i32_w]
                                  rfl
                                refine pure_ (i := 8) (N := some 52) (v := ?_) (a' := ?_) #[true, true, true, true, true, true, true, true, true, true, true, true, false, false, false, false] rfl rfl (any_of HT_.out (by kernel_rfl)) (fun _ _ _ h => h) (Or.inl ⟨by rfl, ?_⟩) ?_ ?_
                                rotate_left
                                · intro w'
                                  go_simp
                                  with_reducible rfl
                                rotate_left
                                · simp only [Act.put, List.setIfInBounds_toArray, List.set_cons_zero, List.set_cons_succ, i64_w, i32_w]
                                  rfl
                                refine one_ (i := 12) (N := some 56) #[true, true, true, true, true, true, true, true, true, true, true, true, true, false, false, false] rfl rfl (one_of HT_.out (by kernel_rfl)) (by decide) (fun K hK => ?_)
                                refine goes_ Tryd.func105 (by kernel_rfl) rfl #[.int .i64 (wrap64 ((rd_T62 l0_1 x5_3).f1))] (by rfl) rfl rfl (by (try simp only [List.map_toArray, List.map_cons, List.map_nil]); first | done | (go_simp; done) | rfl | (simp only [List.length_drop, List.length_take]; rfl)) ?_
                                with_reducible refine (spec_Decimal.calls k3 (wrap64 ((rd_T62 l0_1 x5_3).f1)) t135 _ A20.out).mono ?_
                                rintro e w29 ⟨rfl, hb⟩
                                refine ⟨_, rfl, ?_⟩
                                have n0_ := Aside0.mk (blk_below (g := g0) (o := .cells (⟨(.bool a0_0) :: (.slice (some ad132) l0_1.length c0_1) :: Arr.arL .i8 a0_2⟩ : Array Value) 45 (0, 0)) (by (with_reducible repeat (first | refine blk_drewN ?_ _ | refine blk_drew ?_ | refine blk_alloc ?_ _)); exact BK0.out) hb)
                                have n1_ := Aside0.mk (blk_below (g := gb133) (o := .cells #[.int .i8 ((rd_T62 l0_1 x5_3).f0), .int .i16 ((rd_T62 l0_1 x5_3).f1)] 62 (0, 0)) (by (with_reducible repeat (first | refine blk_drewN ?_ _ | refine blk_drew ?_ | refine blk_alloc ?_ _)); exact BK133.out) hb)
                                have n2_ := Aside0.mk (below_step (by repeat (first | (with_reducible first | exact HB.out | apply below_alloc | apply pw_below_drewN | apply below_drew1 | refine below_set ?_ GE0.out | refine below_set ?_ GE133.out) | exact HB.out)) hb)
                                clear BK0
                                clear BK133
                                clear HB
                                have BK0 := n0_
                                have BK133 := n1_
                                have HB := n2_
                                clear n0_ n1_ n2_
                                (try clear hb)
                                (try clear hb2)
                                (try clear hk)
                                (try clear hi)
                                refine hK.out _ _ ⟨(blk_cell BK133.out 0).trans rfl, (blk_cell BK133.out 1).trans rfl⟩ (fun hHeld => ?_)
                                clear hK K
                                refine norm_ (a' := ?_) ?_ ?_
                                rotate_left
                                · show Act.put _ (some 56) _ = _
                                  simp only [Act.put, List.setIfInBounds_toArray, List.set_cons_zero, List.set_cons_succ, i64_w, i32_w]
                                  rfl
                                refine pure_ (i := 13) (N := some 57) (v := ?_) (a' := ?_) #[true, true, true, true, true, true, true, true, true, true, true, true, true, true, false, false] rfl rfl (any_of HT_.out (by kernel_rfl)) (fun _ _ _ h => h) (Or.inl ⟨by rfl, ?_⟩) ?_ ?_
                                rotate_left
                                · intro w'
                                  go_simp
                                  with_reducible rfl
                                rotate_left
                                · simp only [Act.put, List.setIfInBounds_toArray, List.set_cons_zero, List.set_cons_succ, i64_w, i32_w]
                                  rfl
                                refine pure_ (i := 14) (N := some 58) (v := ?_) (a' := ?_) #[true, true, true, true, true, true, true, true, true, true, true, true, true, true, true, false] rfl rfl (any_of HT_.out (by kernel_rfl)) (fun _ _ _ h => h) (Or.inl ⟨by rfl, ?_⟩) ?_ ?_
                                rotate_left
                                · intro w'
                                  go_simp
                                  with_reducible rfl
                                rotate_left
                                · simp only [Act.put, List.setIfInBounds_toArray, List.set_cons_zero, List.set_cons_succ, i64_w, i32_w]
                                  rfl
                                refine pure_ (i := 15) (N := some 3) (v := ?_) (a' := ?_) #[true, true, true, true, true, true, true, true, true, true, true, true, true, true, true, true] rfl rfl (any_of HT_.out (by kernel_rfl)) (fun _ _ _ h => h) (Or.inl ⟨by rfl, ?_⟩) ?_ ?_
                                rotate_left
                                · intro w'
                                  go_simp
                                  with_reducible rfl
                                rotate_left
                                · simp only [Act.put, List.setIfInBounds_toArray, List.set_cons_zero, List.set_cons_succ, i64_w, i32_w]
                                  rfl
                                refine done_ (done_of HT_.out (by kernel_rfl)) ?_
                                try go_wp2
                                go_roundg k3
                                case measure => have := HJ1.out; have := HK2.out; have := HK3.out; omega
                                case rel => exact ⟨(x3_3 ++ (((⟨#[32]⟩ : ByteArray) ++ (t134.extract (((rd_T62 l0_1 x5_3).f0) : Int).toNat ((IntKind.i8.wrap (((rd_T62 l0_1 x5_3).f0) + 1)) : Int).toNat)) ++ t135)), (wrap64 (x5_3 + 1)), (by first | rfl | (simp; done) | (simp [*]; done)), (by first | rfl | (simp; done) | (simp [*]; done)), H', ⟨by have := HJ1.out; have := HK2.out; have := HK3.out; omega⟩, ⟨by (with_reducible repeat (first | refine blk_drewN ?_ _ | refine blk_drew ?_ | refine blk_alloc ?_ _)); exact BK0.out⟩, ⟨by repeat (first | (with_reducible first | exact HB.out | apply below_alloc | apply pw_below_drewN | apply below_drew1 | refine below_set ?_ GE0.out | refine below_set ?_ GE133.out) | exact HB.out)⟩⟩
                              · rw [if_neg c22] at H
                                exact absurd H (by simp)
                            · rw [if_neg c21] at H
                              exact absurd H (by simp)
                          · rw [if_neg c19] at H
                            exact absurd H (by simp)
                        · rw [if_neg c18] at H
                          exact absurd H (by simp)
                      · rw [if_neg c17] at H
                        exact absurd H (by simp)
                    · rw [if_neg c16] at H
                      exact absurd H (by simp)
                  · rw [if_neg c14] at H
                    exact absurd H (by simp)
                · rw [if_neg c13] at H
                  have c13b0 : decide (x5_3 < (l0_1.length : Int)) = false := decide_eq_false c13
                  clear c13
                  obtain rfl := Option.some.inj H
                  have hcz30_0 : wr.cell? ⟨g0, 0, none⟩ = some (.bool a0_0) := (blk_cell BK0.out 0).trans rfl
                  have hcz30_1 : wr.cell? ⟨g0, 1, none⟩ = some (.slice A0_1 l0_1.length c0_1) := (blk_cell BK0.out 1).trans rfl
                  have hfz30_0 := blk_frozen BK0.out 0
                  have hfz30_1 := blk_frozen BK0.out 1
                  go_wp2
                  go_ret
                  exact ⟨by first | rfl | (simp [errW_none, errW_some] <;> rfl) | (simp [*, errW_none, errW_some] <;> rfl), by repeat (first | (with_reducible first | exact HB.out | apply below_alloc | apply pw_below_drewN | apply below_drew1 | refine below_set ?_ GE0.out) | exact HB.out)⟩

/-! ### spec_HalfText: function 22 -/
def spec_HalfText.f (k : Nat) (a0_0 : Bool) (l0_1 : List (S62)) (a0_2 : Vector Int 16) : Option (ByteArray) := (spec_l01Ok.f k a0_0 l0_1 a0_2).bind fun t137 => (if t137 = true then ((spec_l01Text.f k a0_0 l0_1 a0_2).bind fun t138 => (some t138)) else (some (⟨#[]⟩ : ByteArray)))
theorem spec_HalfText.mono : ∀ a0 a1 a2 k, LeO (spec_HalfText.f k a0 a1 a2) (spec_HalfText.f (k + 1) a0 a1 a2) := by
  intro a0 a1 a2 k
  unfold spec_HalfText.f
  repeat' first
      | (with_reducible exact spec_l01Ok.mono _ _ _ _)
      | (with_reducible exact spec_l01Text.mono _ _ _ _)
      | (with_reducible exact LeO.refl _)
      | (with_reducible exact LeO.none _)
      | (with_reducible refine LeO.ite ?_ ?_)
      | (with_reducible refine LeO.bind ?_ (fun _ => ?_))
      | exact spec_l01Ok.mono _ _ _ _
      | exact spec_l01Text.mono _ _ _ _
      | exact LeO.none _
      | refine LeO.ite ?_ ?_
      | refine LeO.bind ?_ (fun _ => ?_)
set_option maxHeartbeats 8000000 in
set_option maxRecDepth 100000 in
theorem spec_HalfText.calls (k : Nat) (a0_0 : Bool) (A0_1 : Option Addr) (c0_1 : Nat) (l0_1 : List (S62)) (a0_2 : Vector Int 16) (r : ByteArray) (w : World) (hr0_1 : Kd.C k62 w A0_1 l0_1.length l0_1) (hc0_1 : l0_1.length ≤ c0_1) (h : spec_HalfText.f k a0_0 l0_1 a0_2 = some r) :
    Calls Tryd.prog 22 #[.agg (⟨(.bool a0_0) :: (.slice A0_1 l0_1.length c0_1) :: Arr.arL .i8 a0_2⟩ : Array Value)] w fun e w' => e = .returned (.string r) ∧ Below w.heap.size w w' := by
  have hu45 := Tryd.underlying45
  have HR0_1 := Aside0.mk hr0_1
  have HC0_1 := Aside0.mk hc0_1
  clear hr0_1 hc0_1
  have HB := Aside0.mk (Below.refl w.heap.size w)
  have H : ((spec_l01Ok.f k a0_0 l0_1 a0_2).bind fun t137 => (if t137 = true then ((spec_l01Text.f k a0_0 l0_1 a0_2).bind fun t138 => (some t138)) else (some (⟨#[]⟩ : ByteArray)))) = some r := h
  clear h
  replace H := Option.bind_eq_some_iff.mp H
  obtain ⟨t137, A20, H⟩ := H
  replace H : (if t137 = true then ((spec_l01Text.f k a0_0 l0_1 a0_2).bind fun t138 => (some t138)) else (some (⟨#[]⟩ : ByteArray))) = some r := H
  have A2 := Aside0.mk A20
  clear A20
  by_cases c3 : t137 = true
  · subst c3
    have H1 : ((spec_l01Text.f k a0_0 l0_1 a0_2).bind fun t138 => (some t138)) = some r := by rw [if_pos rfl] at H; exact H
    clear H
    have H := H1
    clear H1
    replace H := Option.bind_eq_some_iff.mp H
    obtain ⟨t138, A40, H⟩ := H
    replace H : (some t138) = some r := H
    have A4 := Aside0.mk A40
    clear A40
    obtain rfl := Option.some.inj H
    go_enter Tryd.func22, Tryd.ntmps22
    go_wp2_with (first | ((with_reducible refine gate_dst (N := 1) rfl ?_); refine box_event ?hg (N := 1) ?hd (cs := (⟨(.bool a0_0) :: (.slice A0_1 l0_1.length c0_1) :: Arr.arL .i8 a0_2⟩ : Array Value)) (t := 45) ?hr ?_; (case hd => rfl); (case hg => rfl); (case hr => first | (go_simp; done) | (go_simp; rfl)); intro gb136 hg w5 hbox hb; have n0_ := Aside0.mk (below_step (by repeat (first | (with_reducible first | exact HB.out | apply below_alloc | apply pw_below_drewN | apply below_drew1) | exact HB.out)) hb); have n1_ := Aside0.mk (hbox); have n2_ := Aside0.mk ((by rw [hg]; exact (below_size (by repeat (first | (with_reducible first | exact HB.out | apply below_alloc | apply pw_below_drewN | apply below_drew1) | exact HB.out))) : w.heap.size ≤ gb136)); have n3_ := Aside0.mk ((by rw [hg]; exact (below_size (by repeat (first | (with_reducible first | exact HB.out | apply below_alloc | apply pw_below_drewN | apply below_drew1) | exact HB.out))) : w.heap.size ≤ gb136)); clear HB; have HB := n0_; have BK136 := n1_; have GW136 := n2_; have GE136 := n3_; clear n0_ n1_ n2_ n3_; clear hb hbox hg) | ((with_reducible refine gate_callee (f := 68) rfl ?_); refine goesL_ (some 3) rfl rfl Tryd.func68 (by kernel_rfl) rfl #[.pointer (some ⟨gb136, 0, none⟩)] rfl (by (try simp only [List.map_toArray, List.map_cons, List.map_nil]); first | done | (go_simp; done) | rfl | (simp only [List.length_drop, List.length_take]; rfl)) ?_; (with_reducible refine (spec_l01Ok.calls k gb136 a0_0 A0_1 c0_1 l0_1 a0_2 true _ ?side1 ?side2 ?side3 A2.out).mono ?_); (case side1 => exact by (with_reducible repeat (first | refine blk_drewN ?_ _ | refine blk_drew ?_ | refine blk_alloc ?_ _)); exact BK136.out); (case side2 => repeat (first | exact (Kd.C_below HR0_1.out HB.out) | (with_reducible refine Kd.C_alloc ?_ _) | (with_reducible refine Kd.C_drewN ?_ _) | (with_reducible refine Kd.C_drew ?_))); (case side3 => exact HC0_1.out); rintro e w6 ⟨rfl, hb⟩; refine ⟨_, rfl, ?_⟩; have n0_ := Aside0.mk (blk_below (g := gb136) (o := .cells (⟨(.bool a0_0) :: (.slice A0_1 l0_1.length c0_1) :: Arr.arL .i8 a0_2⟩ : Array Value) 45 (0, 0)) (by (with_reducible repeat (first | refine blk_drewN ?_ _ | refine blk_drew ?_ | refine blk_alloc ?_ _)); exact BK136.out) hb); have n1_ := Aside0.mk (below_step (by repeat (first | (with_reducible first | exact HB.out | apply below_alloc | apply pw_below_drewN | apply below_drew1 | refine below_set ?_ GE136.out) | exact HB.out)) hb); clear BK136; clear HB; have BK136 := n0_; have HB := n1_; clear n0_ n1_; (try clear hb); (try clear hb2); (try clear hk); (try clear hi)) | ((with_reducible refine gate_callee (f := 69) rfl ?_); refine goesL_ (some 5) rfl rfl Tryd.func69 (by kernel_rfl) rfl #[.pointer (some ⟨gb136, 0, none⟩)] rfl (by (try simp only [List.map_toArray, List.map_cons, List.map_nil]); first | done | (go_simp; done) | rfl | (simp only [List.length_drop, List.length_take]; rfl)) ?_; (with_reducible refine (spec_l01Text.calls k gb136 a0_0 A0_1 c0_1 l0_1 a0_2 t138 _ ?side1 ?side2 ?side3 A4.out).mono ?_); (case side1 => exact by (with_reducible repeat (first | refine blk_drewN ?_ _ | refine blk_drew ?_ | refine blk_alloc ?_ _)); exact BK136.out); (case side2 => repeat (first | exact (Kd.C_below HR0_1.out HB.out) | (with_reducible refine Kd.C_alloc ?_ _) | (with_reducible refine Kd.C_drewN ?_ _) | (with_reducible refine Kd.C_drew ?_))); (case side3 => exact HC0_1.out); rintro e w7 ⟨rfl, hb⟩; refine ⟨_, rfl, ?_⟩; have n0_ := Aside0.mk (blk_below (g := gb136) (o := .cells (⟨(.bool a0_0) :: (.slice A0_1 l0_1.length c0_1) :: Arr.arL .i8 a0_2⟩ : Array Value) 45 (0, 0)) (by (with_reducible repeat (first | refine blk_drewN ?_ _ | refine blk_drew ?_ | refine blk_alloc ?_ _)); exact BK136.out) hb); have n1_ := Aside0.mk (below_step (by repeat (first | (with_reducible first | exact HB.out | apply below_alloc | apply pw_below_drewN | apply below_drew1 | refine below_set ?_ GE136.out) | exact HB.out)) hb); clear BK136; clear HB; have BK136 := n0_; have HB := n1_; clear n0_ n1_; (try clear hb); (try clear hb2); (try clear hk); (try clear hi)))
    go_ret
    exact ⟨by first | rfl | (simp [errW_none, errW_some] <;> rfl) | (simp [*, errW_none, errW_some] <;> rfl), by repeat (first | (with_reducible first | exact HB.out | apply below_alloc | apply pw_below_drewN | apply below_drew1 | refine below_set ?_ GE136.out) | exact HB.out)⟩
  · replace c3 := Bool.eq_false_iff.mpr c3
    subst c3
    have H1 : (some (⟨#[]⟩ : ByteArray)) = some r := by rw [if_neg (show ¬ (false = true) by decide)] at H; exact H
    clear H
    have H := H1
    clear H1
    obtain rfl := Option.some.inj H
    go_enter Tryd.func22, Tryd.ntmps22
    go_wp2_with (first | ((with_reducible refine gate_dst (N := 1) rfl ?_); refine box_event ?hg (N := 1) ?hd (cs := (⟨(.bool a0_0) :: (.slice A0_1 l0_1.length c0_1) :: Arr.arL .i8 a0_2⟩ : Array Value)) (t := 45) ?hr ?_; (case hd => rfl); (case hg => rfl); (case hr => first | (go_simp; done) | (go_simp; rfl)); intro gb136 hg w8 hbox hb; have n0_ := Aside0.mk (below_step (by repeat (first | (with_reducible first | exact HB.out | apply below_alloc | apply pw_below_drewN | apply below_drew1) | exact HB.out)) hb); have n1_ := Aside0.mk (hbox); have n2_ := Aside0.mk ((by rw [hg]; exact (below_size (by repeat (first | (with_reducible first | exact HB.out | apply below_alloc | apply pw_below_drewN | apply below_drew1) | exact HB.out))) : w.heap.size ≤ gb136)); have n3_ := Aside0.mk ((by rw [hg]; exact (below_size (by repeat (first | (with_reducible first | exact HB.out | apply below_alloc | apply pw_below_drewN | apply below_drew1) | exact HB.out))) : w.heap.size ≤ gb136)); clear HB; have HB := n0_; have BK136 := n1_; have GW136 := n2_; have GE136 := n3_; clear n0_ n1_ n2_ n3_; clear hb hbox hg) | ((with_reducible refine gate_callee (f := 68) rfl ?_); refine goesL_ (some 3) rfl rfl Tryd.func68 (by kernel_rfl) rfl #[.pointer (some ⟨gb136, 0, none⟩)] rfl (by (try simp only [List.map_toArray, List.map_cons, List.map_nil]); first | done | (go_simp; done) | rfl | (simp only [List.length_drop, List.length_take]; rfl)) ?_; (with_reducible refine (spec_l01Ok.calls k gb136 a0_0 A0_1 c0_1 l0_1 a0_2 false _ ?side1 ?side2 ?side3 A2.out).mono ?_); (case side1 => exact by (with_reducible repeat (first | refine blk_drewN ?_ _ | refine blk_drew ?_ | refine blk_alloc ?_ _)); exact BK136.out); (case side2 => repeat (first | exact (Kd.C_below HR0_1.out HB.out) | (with_reducible refine Kd.C_alloc ?_ _) | (with_reducible refine Kd.C_drewN ?_ _) | (with_reducible refine Kd.C_drew ?_))); (case side3 => exact HC0_1.out); rintro e w9 ⟨rfl, hb⟩; refine ⟨_, rfl, ?_⟩; have n0_ := Aside0.mk (blk_below (g := gb136) (o := .cells (⟨(.bool a0_0) :: (.slice A0_1 l0_1.length c0_1) :: Arr.arL .i8 a0_2⟩ : Array Value) 45 (0, 0)) (by (with_reducible repeat (first | refine blk_drewN ?_ _ | refine blk_drew ?_ | refine blk_alloc ?_ _)); exact BK136.out) hb); have n1_ := Aside0.mk (below_step (by repeat (first | (with_reducible first | exact HB.out | apply below_alloc | apply pw_below_drewN | apply below_drew1 | refine below_set ?_ GE136.out) | exact HB.out)) hb); clear BK136; clear HB; have BK136 := n0_; have HB := n1_; clear n0_ n1_; (try clear hb); (try clear hb2); (try clear hk); (try clear hi)))
    go_ret
    exact ⟨by first | rfl | (simp [errW_none, errW_some] <;> rfl) | (simp [*, errW_none, errW_some] <;> rfl), by repeat (first | (with_reducible first | exact HB.out | apply below_alloc | apply pw_below_drewN | apply below_drew1 | refine below_set ?_ GE136.out) | exact HB.out)⟩

/-! ### laws_toNotch: function 110 -/
def laws_toNotch.f (a0_0 : Int) (a0_1 : Int) : Option (Int × Int) := some (a0_0, a0_1)
set_option maxHeartbeats 8000000 in
set_option maxRecDepth 100000 in
theorem laws_toNotch.calls (a0_0 : Int) (a0_1 : Int) (r1 : Int) (r2 : Int) (w : World) (h : laws_toNotch.f a0_0 a0_1 = some (r1, r2)) :
    Calls Tryd.prog 110 #[.agg #[.int .i8 a0_0, .int .i16 a0_1]] w fun e w' => e = .returned (.agg #[.int .i8 r1, .int .i16 r2]) ∧ Below w.heap.size w w' := by
  have hu129 := Tryd.underlying129
  have hu62 := Tryd.underlying62
  have HB := Aside0.mk (Below.refl w.heap.size w)
  have H : (some (a0_0, a0_1)) = some (r1, r2) := h
  clear h
  simp only [Option.some.injEq, Prod.mk.injEq] at H
  obtain ⟨rfl, rfl⟩ := H
  go_enter Tryd.func110, Tryd.ntmps110
  go_wp2_with (first | ((with_reducible refine gate_dst (N := 1) rfl ?_); refine box_event ?hg (N := 1) ?hd (cs := #[.int .i8 a0_0, .int .i16 a0_1]) (t := 129) ?hr ?_; (case hd => rfl); (case hg => rfl); (case hr => first | (go_simp; done) | (go_simp; rfl)); intro gb139 hg w2 hbox hb; have n0_ := Aside0.mk (below_step (by repeat (first | (with_reducible first | exact HB.out | apply below_alloc | apply pw_below_drewN | apply below_drew1) | exact HB.out)) hb); have n1_ := Aside0.mk (hbox); have n2_ := Aside0.mk ((by rw [hg]; exact (below_size (by repeat (first | (with_reducible first | exact HB.out | apply below_alloc | apply pw_below_drewN | apply below_drew1) | exact HB.out))) : w.heap.size ≤ gb139)); have n3_ := Aside0.mk ((by rw [hg]; exact (below_size (by repeat (first | (with_reducible first | exact HB.out | apply below_alloc | apply pw_below_drewN | apply below_drew1) | exact HB.out))) : w.heap.size ≤ gb139)); clear HB; have HB := n0_; have BK139 := n1_; have GW139 := n2_; have GE139 := n3_; clear n0_ n1_ n2_ n3_; clear hb hbox hg) | ((with_reducible refine gate_dst (N := 2) rfl ?_); refine box_event ?hg (N := 2) ?hd (cs := #[.int .i8 0, .int .i16 0]) (t := 62) ?hr ?_; (case hd => rfl); (case hg => rfl); (case hr => first | (go_simp; done) | (go_simp; rfl)); intro gb140 hg w3 hbox hb; have n0_ := Aside0.mk (blk_below (g := gb139) (o := .cells #[.int .i8 a0_0, .int .i16 a0_1] 129 (0, 0)) (by (with_reducible repeat (first | refine blk_drewN ?_ _ | refine blk_drew ?_ | refine blk_alloc ?_ _)); exact BK139.out) hb); have n1_ := Aside0.mk (below_step (by repeat (first | (with_reducible first | exact HB.out | apply below_alloc | apply pw_below_drewN | apply below_drew1 | refine below_set ?_ GE139.out) | exact HB.out)) hb); have n2_ := Aside0.mk (hbox); have n3_ := Aside0.mk ((by rw [hg]; exact (below_size (by repeat (first | (with_reducible first | exact HB.out | apply below_alloc | apply pw_below_drewN | apply below_drew1 | refine below_set ?_ GE139.out) | exact HB.out))) : w.heap.size ≤ gb140)); have n4_ := Aside0.mk ((by rw [hg]; exact (below_size (by repeat (first | (with_reducible first | exact HB.out | apply below_alloc | apply pw_below_drewN | apply below_drew1 | refine below_set ?_ GE139.out) | exact HB.out))) : w.heap.size ≤ gb140)); have n5_ := Aside0.mk ((by rw [hg]; exact Nat.ne_of_lt (blk_lt (g := gb139) (o := .cells #[.int .i8 a0_0, .int .i16 a0_1] 129 (0, 0)) (by (with_reducible repeat (first | refine blk_drewN ?_ _ | refine blk_drew ?_ | refine blk_alloc ?_ _)); exact BK139.out)) : gb139 ≠ gb140)); have n6_ := Aside0.mk ((by rw [hg]; exact Nat.ne_of_gt (blk_lt (g := gb139) (o := .cells #[.int .i8 a0_0, .int .i16 a0_1] 129 (0, 0)) (by (with_reducible repeat (first | refine blk_drewN ?_ _ | refine blk_drew ?_ | refine blk_alloc ?_ _)); exact BK139.out)) : gb140 ≠ gb139)); clear BK139; clear HB; have BK139 := n0_; have HB := n1_; have BK140 := n2_; have GW140 := n3_; have GE140 := n4_; have NB139_140 := n5_; have NB140_139 := n6_; clear n0_ n1_ n2_ n3_ n4_ n5_ n6_; clear hb hbox hg) | ((with_reducible refine gate_dst (N := 3) rfl ?_); refine box_event ?hg (N := 3) ?hd (cs := #[.int .i8 0, .int .i16 0]) (t := 62) ?hr ?_; (case hd => rfl); (case hg => rfl); (case hr => first | (go_simp; done) | (go_simp; rfl)); intro gb141 hg w4 hbox hb; have n0_ := Aside0.mk (blk_below (g := gb139) (o := .cells #[.int .i8 a0_0, .int .i16 a0_1] 129 (0, 0)) (by (with_reducible repeat (first | refine blk_drewN ?_ _ | refine blk_drew ?_ | refine blk_alloc ?_ _)); exact BK139.out) hb); have n1_ := Aside0.mk (blk_below (g := gb140) (o := .cells #[.int .i8 0, .int .i16 0] 62 (0, 0)) (by (with_reducible repeat (first | refine blk_drewN ?_ _ | refine blk_drew ?_ | refine blk_alloc ?_ _)); exact BK140.out) hb); have n2_ := Aside0.mk (below_step (by repeat (first | (with_reducible first | exact HB.out | apply below_alloc | apply pw_below_drewN | apply below_drew1 | refine below_set ?_ GE139.out | refine below_set ?_ GE140.out) | exact HB.out)) hb); have n3_ := Aside0.mk (hbox); have n4_ := Aside0.mk ((by rw [hg]; exact (below_size (by repeat (first | (with_reducible first | exact HB.out | apply below_alloc | apply pw_below_drewN | apply below_drew1 | refine below_set ?_ GE139.out | refine below_set ?_ GE140.out) | exact HB.out))) : w.heap.size ≤ gb141)); have n5_ := Aside0.mk ((by rw [hg]; exact (below_size (by repeat (first | (with_reducible first | exact HB.out | apply below_alloc | apply pw_below_drewN | apply below_drew1 | refine below_set ?_ GE139.out | refine below_set ?_ GE140.out) | exact HB.out))) : w.heap.size ≤ gb141)); have n6_ := Aside0.mk ((by rw [hg]; exact Nat.ne_of_lt (blk_lt (g := gb139) (o := .cells #[.int .i8 a0_0, .int .i16 a0_1] 129 (0, 0)) (by (with_reducible repeat (first | refine blk_drewN ?_ _ | refine blk_drew ?_ | refine blk_alloc ?_ _)); exact BK139.out)) : gb139 ≠ gb141)); have n7_ := Aside0.mk ((by rw [hg]; exact Nat.ne_of_gt (blk_lt (g := gb139) (o := .cells #[.int .i8 a0_0, .int .i16 a0_1] 129 (0, 0)) (by (with_reducible repeat (first | refine blk_drewN ?_ _ | refine blk_drew ?_ | refine blk_alloc ?_ _)); exact BK139.out)) : gb141 ≠ gb139)); have n8_ := Aside0.mk ((by rw [hg]; exact Nat.ne_of_lt (blk_lt (g := gb140) (o := .cells #[.int .i8 0, .int .i16 0] 62 (0, 0)) (by (with_reducible repeat (first | refine blk_drewN ?_ _ | refine blk_drew ?_ | refine blk_alloc ?_ _)); exact BK140.out)) : gb140 ≠ gb141)); have n9_ := Aside0.mk ((by rw [hg]; exact Nat.ne_of_gt (blk_lt (g := gb140) (o := .cells #[.int .i8 0, .int .i16 0] 62 (0, 0)) (by (with_reducible repeat (first | refine blk_drewN ?_ _ | refine blk_drew ?_ | refine blk_alloc ?_ _)); exact BK140.out)) : gb141 ≠ gb140)); clear BK139; clear BK140; clear HB; have BK139 := n0_; have BK140 := n1_; have HB := n2_; have BK141 := n3_; have GW141 := n4_; have GE141 := n5_; have NB139_141 := n6_; have NB141_139 := n7_; have NB140_141 := n8_; have NB141_140 := n9_; clear n0_ n1_ n2_ n3_ n4_ n5_ n6_ n7_ n8_ n9_; clear hb hbox hg; have hnb5 := NB139_140.out; have hnc5 := NB140_139.out; have hnb6 := NB139_141.out; have hnc6 := NB141_139.out; have hcz7_0 : w4.cell? ⟨gb139, 0, none⟩ = some (.int .i8 a0_0) := (blk_cell BK139.out 0).trans rfl; have hcz7_1 : w4.cell? ⟨gb139, 1, none⟩ = some (.int .i16 a0_1) := (blk_cell BK139.out 1).trans rfl; have hfz7_0 := blk_frozen BK139.out 0; have hfz7_1 := blk_frozen BK139.out 1; have hnb8 := NB141_140.out; have hnc8 := NB140_141.out; have hcz9_0 : w4.cell? ⟨gb141, 0, none⟩ = some (.int .i8 0) := (blk_cell BK141.out 0).trans rfl; have hcz9_1 : w4.cell? ⟨gb141, 1, none⟩ = some (.int .i16 0) := (blk_cell BK141.out 1).trans rfl; have hfz9_0 := blk_frozen BK141.out 0; have hfz9_1 := blk_frozen BK141.out 1; have hcz10_0 : w4.cell? ⟨gb140, 0, none⟩ = some (.int .i8 0) := (blk_cell BK140.out 0).trans rfl; have hcz10_1 : w4.cell? ⟨gb140, 1, none⟩ = some (.int .i16 0) := (blk_cell BK140.out 1).trans rfl; have hfz10_0 := blk_frozen BK140.out 0; have hfz10_1 := blk_frozen BK140.out 1))
  refine bodyPost_ret (results_cell_row rfl _ _ gb140 62 #[.int .i8 a0_0, .int .i16 a0_1] (0, 0) _ rfl (by (with_reducible repeat (first | refine blk_drewN ?_ _ | refine blk_drew ?_ | refine blk_alloc ?_ _)); refine blk_put (cs := #[.int .i8 a0_0, .int .i16 0]) ?_ 1 _ rfl; (with_reducible repeat (first | refine blk_drewN ?_ _ | refine blk_drew ?_ | refine blk_alloc ?_ _)); refine blk_put (cs := #[.int .i8 0, .int .i16 0]) ?_ 0 _ rfl; (with_reducible repeat (first | refine blk_drewN ?_ _ | refine blk_drew ?_ | refine blk_alloc ?_ _)); refine blk_far ?_ NB140_141.out _; (with_reducible repeat (first | refine blk_drewN ?_ _ | refine blk_drew ?_ | refine blk_alloc ?_ _)); refine blk_far ?_ NB140_141.out _; (with_reducible repeat (first | refine blk_drewN ?_ _ | refine blk_drew ?_ | refine blk_alloc ?_ _)); exact BK140.out) Tryd.underlying62 rfl (by kernel_rfl)) rfl ?_
  exact ⟨by first | rfl | (simp [errW_none, errW_some] <;> rfl) | (simp [*, errW_none, errW_some] <;> rfl), by repeat (first | (with_reducible first | exact HB.out | apply below_alloc | apply pw_below_drewN | apply below_drew1 | refine below_set ?_ GE139.out | refine below_set ?_ GE140.out | refine below_set ?_ GE141.out) | exact HB.out)⟩

/-! ### laws_toNotchS: function 70 -/
def laws_toNotchS.l0 : Nat → List (S129) → List (S62) → Int → Option ((List (S62)))
  | 0, _, _, _ => none
  | k + 1, x0, x3, x4 => if x4 < (x0.length : Int) then (if 0 ≤ x4 then ((laws_toNotch.f ((rd_T129 x0 x4).f0) ((rd_T129 x0 x4).f1)).bind fun bt146 => (if x4 < (x3.length : Int) then (laws_toNotchS.l0 k x0 (x3.set (x4 : Int).toNat (⟨bt146.1, bt146.2⟩ : S62)) (wrap64 (x4 + 1))) else (none))) else (none)) else (some x3)
def laws_toNotchS.f (k : Nat) (l0 : List (S129)) : Option ((List (S62))) := if 0 ≤ (l0.length : Int) then (if ((l0.length : Int) : Int).toNat ≤ 70368744177664 then (laws_toNotchS.l0 k l0 (List.replicate ((l0.length : Int) : Int).toNat z62) 0) else (none)) else (none)
theorem laws_toNotchS.mono_l : ∀ k, (∀ y0 y1 y2, LeO (laws_toNotchS.l0 k y0 y1 y2) (laws_toNotchS.l0 (k + 1) y0 y1 y2))
  | 0 => fun _ _ _ r h => by simp [laws_toNotchS.l0] at h
  | k + 1 => by
    have ih0 := laws_toNotchS.mono_l k
    · intro y0 y1 y2
      unfold laws_toNotchS.l0
      repeat' first
      | (with_reducible exact ih0 _ _ _)
      | (with_reducible exact LeO.refl _)
      | (with_reducible exact LeO.none _)
      | (with_reducible refine LeO.ite ?_ ?_)
      | (with_reducible refine LeO.bind ?_ (fun _ => ?_))
      | exact ih0 _ _ _
      | exact LeO.none _
      | refine LeO.ite ?_ ?_
      | refine LeO.bind ?_ (fun _ => ?_)
theorem laws_toNotchS.mono : ∀ a0 k, LeO (laws_toNotchS.f k a0) (laws_toNotchS.f (k + 1) a0) := by
  intro a0 k
  have ih0 := laws_toNotchS.mono_l k
  unfold laws_toNotchS.f
  repeat' first
      | (with_reducible exact ih0 _ _ _)
      | (with_reducible exact LeO.refl _)
      | (with_reducible exact LeO.none _)
      | (with_reducible refine LeO.ite ?_ ?_)
      | (with_reducible refine LeO.bind ?_ (fun _ => ?_))
      | exact ih0 _ _ _
      | exact LeO.none _
      | refine LeO.ite ?_ ?_
      | refine LeO.bind ?_ (fun _ => ?_)
set_option maxHeartbeats 8000000 in
set_option maxRecDepth 100000 in
theorem laws_toNotchS.calls (k : Nat) (A0 : Option Addr) (c0 : Nat) (l0 : List (S129)) (r : List (S62)) (w : World) (hr0 : Kd.C k129 w A0 l0.length l0) (hc0 : l0.length ≤ c0) (h : laws_toNotchS.f k l0 = some r) :
    Calls Tryd.prog 70 #[.slice A0 l0.length c0] w fun e w' => ∃ v0_ : Value, e = .returned (v0_) ∧ Kd.R k62 62 w' w.heap.size (fun _ => True) v0_ r ∧ Below w.heap.size w w' := by
  have hu129 := Tryd.underlying129
  have hu62 := Tryd.underlying62
  have HR0 := Aside0.mk hr0
  have HC0 := Aside0.mk hc0
  clear hr0 hc0
  have HB := Aside0.mk (Below.refl w.heap.size w)
  have H : (if 0 ≤ (l0.length : Int) then (if ((l0.length : Int) : Int).toNat ≤ 70368744177664 then (laws_toNotchS.l0 k l0 (List.replicate ((l0.length : Int) : Int).toNat z62) 0) else (none)) else (none)) = some r := h
  clear h
  by_cases c2 : 0 ≤ (l0.length : Int)
  · rw [if_pos c2] at H
    have c2b0 := eq_true c2
    have c2b1 : decide (0 ≤ (l0.length : Int)) = true := decide_eq_true c2
    clear c2
    by_cases c3 : ((l0.length : Int) : Int).toNat ≤ 70368744177664
    · rw [if_pos c3] at H
      have c3b0 := eq_true c3
      have c3b1 : decide (((l0.length : Int) : Int).toNat ≤ 70368744177664) = true := decide_eq_true c3
      clear c3
      obtain ⟨y142, hy142⟩ : ∃ y_ : List (S62), y_ = (List.replicate ((l0.length : Int) : Int).toNat z62) := ⟨_, rfl⟩
      replace H : (laws_toNotchS.l0 k l0 y142 0) = some r := by first | (rw [hy142]; with_reducible exact H) | (have H2_ := (Option.bind_some _ _).symm.trans H; rw [hy142]; with_reducible exact H2_) | (have H2_ := (Option.bind_some _ _).symm.trans H; with_reducible exact H2_) | with_reducible exact H | (rw [hy142]; exact H) | exact H
      have Ny142 := Aside0.mk hy142
      clear hy142
      have H' := Aside0.mk H
      clear H
      go_enter Tryd.func70, Tryd.ntmps70
      go_wp2_with (first | ((with_reducible refine gate_dst (N := 7) rfl ?_); refine Kd.R_make k62 _ 62 rfl (N := 7) rfl 42 _ _ rfl (l0.length : Int) rfl rfl Tryd.underlying42 (.agg #[(.int .i8 0), (.int .i16 0)]) 4 info62 rfl (by decide) (by omega) z62 (ok := fun _ => True) (okp := fun _ => True) (k62_mkM _ _ _ z62 ) (fun _ hk => hk) trivial (of_decide_eq_true (by first | (with_reducible assumption) | assumption)) (Nat.le_trans (Nat.mul_le_mul_right _ (of_decide_eq_true (by first | (with_reducible assumption) | assumption) : (l0.length : Int).toNat ≤ 70368744177664)) (by omega)) (Below.refl _ _) (Nat.le_refl _) ?_; intro v143 w4 ho5 hb hg_ hnew_; clear hg_ hnew_; (first | rw [← Ny142.out] at ho5 | (simp only [Int.reduceToNat] at ho5; rw [← Ny142.out] at ho5)); have n0_ := Aside0.mk (Kd.R_lower ho5 (below_size (by repeat (first | (with_reducible first | exact HB.out | apply below_alloc | apply pw_below_drewN | apply below_drew1) | exact HB.out)))); have n1_ := Aside0.mk (below_step (by repeat (first | (with_reducible first | exact HB.out | apply below_alloc | apply pw_below_drewN | apply below_drew1) | exact HB.out)) hb); clear HB; have HO144 := n0_; have HB := n1_; clear n0_ n1_; clear hb ho5))
      go_loopg [4] k (fun kq v4 w' => ∃ (x3_1 : List (S62)) (x4_1 : Int), v4 = .int .i64 x4_1 ∧ Aside0 (laws_toNotchS.l0 kq l0 x3_1 x4_1 = some r) ∧ Aside0 (kq ≤ k) ∧ Aside0 (Kd.R k62 62 w' w.heap.size (fun _ => True) v143 x3_1) ∧ Aside0 (Below w.heap.size w w'))
      case atStart => exact ⟨(y142), (0), (by first | rfl | (simp; done) | (simp [*]; done)), H', ⟨Nat.le_refl _⟩, ⟨by (with_reducible repeat (first | apply Kd.R_alloc | apply Kd.R_drewN | apply Kd.R_drew)); exact HO144.out⟩, ⟨by repeat (first | (with_reducible first | exact HB.out | apply below_alloc | apply pw_below_drewN | apply below_drew1) | exact HB.out)⟩⟩
      case round =>
        clear H'
        try clear c2
        try clear c2b0
        try clear c2b1
        try clear p2
        try clear c3
        try clear c3b0
        try clear c3b1
        obtain ⟨x3_1, x4_1, rfl, HA, HK1, HO_3, HB⟩ := hrel
        cases gk with
        | zero => exact absurd HA.out (by simp [laws_toNotchS.l0])
        | succ k1 =>
          have H := HA.out
          clear HA
          simp only [laws_toNotchS.l0] at H
          by_cases c6 : x4_1 < (l0.length : Int)
          · rw [if_pos c6] at H
            have c6b0 : decide (x4_1 < (l0.length : Int)) = true := decide_eq_true c6
            clear c6
            by_cases c7 : 0 ≤ x4_1
            · rw [if_pos c7] at H
              have c7b0 : decide (0 ≤ x4_1) = true := decide_eq_true c7
              clear c7
              replace H := Option.bind_eq_some_iff.mp H
              obtain ⟨⟨t146, t147⟩, A80, H⟩ := H
              replace H : (if x4_1 < (x3_1.length : Int) then (laws_toNotchS.l0 k1 l0 (x3_1.set (x4_1 : Int).toNat (⟨t146, t147⟩ : S62)) (wrap64 (x4_1 + 1))) else (none)) = some r := H
              have A8 := Aside0.mk A80
              clear A80
              by_cases c9 : x4_1 < (x3_1.length : Int)
              · rw [if_pos c9] at H
                have c9b0 : decide (x4_1 < (x3_1.length : Int)) = true := decide_eq_true c9
                clear c9
                obtain ⟨y148, hy148⟩ : ∃ y_ : List (S62), y_ = (x3_1.set (x4_1 : Int).toNat (⟨t146, t147⟩ : S62)) := ⟨_, rfl⟩
                replace H : (laws_toNotchS.l0 k1 l0 y148 (wrap64 (x4_1 + 1))) = some r := by first | (rw [hy148]; with_reducible exact H) | (have H2_ := (Option.bind_some _ _).symm.trans H; rw [hy148]; with_reducible exact H2_) | (have H2_ := (Option.bind_some _ _).symm.trans H; with_reducible exact H2_) | with_reducible exact H | (rw [hy148]; exact H) | exact H
                have Ny148 := Aside0.mk hy148
                clear hy148
                have H' := Aside0.mk H
                clear H
                have p145 : 0 ≤ (x4_1 : Int) := of_decide_eq_true (by first | (with_reducible assumption) | assumption)
                have q145 : x4_1 < (l0.length : Int) := of_decide_eq_true (by first | (with_reducible assumption) | assumption)
                obtain ⟨ad145, e145, hx145_0, hx145_1⟩ := at_T129 HR0.out x4_1 p145 q145
                cases e145
                replace hx145_0 := (HB.out.cell (World.block_lt_of_cell? w _ hx145_0)).trans hx145_0
                replace hx145_1 := (HB.out.cell (World.block_lt_of_cell? w _ hx145_1)).trans hx145_1
                replace p145 := eq_true p145
                replace q145 := eq_true q145
                go_wp2_with (first | ((with_reducible refine gate_callee (f := 110) rfl ?_); refine goesL_ (some 20) rfl rfl Tryd.func110 (by kernel_rfl) rfl #[.agg #[.int .i8 ((rd_T129 l0 x4_1).f0), .int .i16 ((rd_T129 l0 x4_1).f1)]] rfl (by (try simp only [List.map_toArray, List.map_cons, List.map_nil]); first | done | (go_simp; done) | rfl | (simp only [List.length_drop, List.length_take]; rfl)) ?_; (with_reducible refine (laws_toNotch.calls ((rd_T129 l0 x4_1).f0) ((rd_T129 l0 x4_1).f1) t146 t147 _ A8.out).mono ?_); rintro e w11 ⟨rfl, hb⟩; refine ⟨_, rfl, ?_⟩; have n0_ := Aside0.mk (Kd.R_below (by (with_reducible repeat (first | apply Kd.R_alloc | apply Kd.R_drewN | apply Kd.R_drew)); exact HO_3.out) hb); have n1_ := Aside0.mk (below_step (by repeat (first | (with_reducible first | exact HB.out | apply below_alloc | apply pw_below_drewN | apply below_drew1) | exact HB.out)) hb); clear HO_3; clear HB; have HO_3 := n0_; have HB := n1_; clear n0_ n1_; (try clear hb); (try clear hb2); (try clear hk); (try clear hi); have p10 : 0 ≤ (x4_1 : Int) := of_decide_eq_true (by first | (with_reducible assumption) | assumption); have q10 : (x4_1 : Int) < ((x3_1.length : Int) : Int) := of_decide_eq_true (by first | (with_reducible assumption) | assumption); obtain ⟨go10, co10, eo10, gb10, gl10, cl10, HG10⟩ := Kd.R_form HO_3.out (by omega); (first | cases eo10 | (injection eo10 with ea_ en_ ec_; (first | subst ea_ | (injection ea_ with ea_; subst ea_)); subst ec_; clear en_)); have GB10 := Aside0.mk gb10; have GG10 := Aside0.mk HG10; clear gb10 gl10 HG10; obtain ⟨ce10, hcl10, hM10, hcc10, hfr10⟩ := Kd.R_elem HO_3.out z62 (x4_1 : Int) p10 q10; obtain rfl := k62_openM hM10; have hx10_0 : w11.cell? ⟨go10, (x4_1 : Int).toNat * 2, none⟩ = some (.int .i8 ((rd_T62 x3_1 x4_1).f0)) := hcc10 0 _ rfl; have hx10_1 : w11.cell? ⟨go10, (x4_1 : Int).toNat * 2 + 1, none⟩ = some (.int .i16 ((rd_T62 x3_1 x4_1).f1)) := hcc10 1 _ rfl; have hf10_0 : w11.frozen? ⟨go10, (x4_1 : Int).toNat * 2, none⟩ = false := hfr10 0; have hf10_1 : w11.frozen? ⟨go10, (x4_1 : Int).toNat * 2 + 1, none⟩ = false := hfr10 1; clear hcl10 hcc10 hfr10 hM10; replace p10 := eq_true p10; replace q10 := eq_true q10; have HX12 := Aside0.mk (show Kd.R k62 62 w11 w.heap.size (fun _ => True) (.slice (some ⟨go10, 0, none⟩) x3_1.length co10) x3_1 from (by (with_reducible repeat (first | apply Kd.R_alloc | apply Kd.R_drewN | apply Kd.R_drew)); exact HO_3.out)); obtain ⟨ce12, hcl12, hM12, hcc12, hfr12⟩ := Kd.R_elem HX12.out z62 (x4_1 : Int) (of_decide_eq_true (by first | (with_reducible assumption) | assumption)) (by have h_ : (x4_1 : Int) < ((x3_1.length : Int) : Int) := of_decide_eq_true (by first | (with_reducible assumption) | assumption); first | exact h_ | (have e_ := (Kd.R_reads' HO_3.out).1; omega) | simpa using h_); obtain rfl := k62_openM hM12; have HP12 := Kd.R_seg HX12.out (x4_1 : Int) (of_decide_eq_true (by first | (with_reducible assumption) | assumption)) (by have h_ : (x4_1 : Int) < ((x3_1.length : Int) : Int) := of_decide_eq_true (by first | (with_reducible assumption) | assumption); first | exact h_ | (have e_ := (Kd.R_reads' HO_3.out).1; omega) | simpa using h_) (seg := [.int .i8 t146, .int .i16 t147]) (j := 0) hcl12 hcc12 (show 2 ≤ 2 from by decide) (x' := (⟨t146, t147⟩ : S62)) (k62_mkM _ _ _ (⟨t146, t147⟩ : S62) ) (fun _ hk => hk); have hx12_0 := hcc12 0 _ rfl; (try simp only [show (k62).sz = 2 from rfl, Nat.mul_one, Nat.add_zero] at hx12_0); have hf12_0 := hfr12 0; (try simp only [show (k62).sz = 2 from rfl, Nat.mul_one, Nat.add_zero] at hf12_0); have hx12_1 := hcc12 1 _ rfl; (try simp only [show (k62).sz = 2 from rfl, Nat.mul_one, Nat.add_zero] at hx12_1); have hf12_1 := hfr12 1; (try simp only [show (k62).sz = 2 from rfl, Nat.mul_one, Nat.add_zero] at hf12_1); clear hcl12 hcc12 hfr12 hM12) | ((with_reducible refine gate_store (t := 62) (p := 21) rfl ?_); refine store_event (t := 62) (p := 21) (v := ?vo_w13) (w1 := ((w11.setCell ⟨go10, (x4_1 : Int).toNat * 2, none⟩ (.int .i8 t146)).setCell ⟨go10, (x4_1 : Int).toNat * 2 + 1, none⟩ (.int .i16 t147))) ?hg ?ho ?hn ?hr ?_; (case ho => rfl); (case hg => rfl); (case hn => rfl); (case hr => first | (go_simp; done) | (go_simp; rfl)); intro w13 hw; have hg : w11.grownBy w13 (some go10) := (by rw [hw]; exact HP12.2); have hp_ : Kd.R k62 62 w13 w.heap.size (fun _ => True) (.slice (some ⟨go10, 0, none⟩) x3_1.length co10) y148 := (by rw [hw, Ny148.out]; exact HP12.1); clear HP12; have n0_ := Aside0.mk (hp_); have n1_ := Aside0.mk ((by rw [hw]; exact below_set (below_set (HB.out) GB10.out) GB10.out : Below w.heap.size w w13)); clear HO_3; clear HB; have HO_3 := n0_; have HB := n1_; clear n0_ n1_; clear hg hw hp_))
                go_roundg k1
                case measure => have := HK1.out; omega
                case rel => exact ⟨(y148), (wrap64 (x4_1 + 1)), (by first | rfl | (simp; done) | (simp [*]; done)), H', ⟨by have := HK1.out; omega⟩, ⟨by (with_reducible repeat (first | apply Kd.R_alloc | apply Kd.R_drewN | apply Kd.R_drew)); exact HO_3.out⟩, ⟨by repeat (first | (with_reducible first | exact HB.out | apply below_alloc | apply pw_below_drewN | apply below_drew1) | exact HB.out)⟩⟩
              · rw [if_neg c9] at H
                exact absurd H (by simp)
            · rw [if_neg c7] at H
              exact absurd H (by simp)
          · rw [if_neg c6] at H
            have c6b0 : decide (x4_1 < (l0.length : Int)) = false := decide_eq_false c6
            clear c6
            obtain rfl := Option.some.inj H
            go_wp2
            go_ret
            exact ⟨_, by first | rfl | (simp [errW_none, errW_some] <;> rfl) | (simp [*, errW_none, errW_some] <;> rfl), by (with_reducible repeat (first | apply Kd.R_alloc | apply Kd.R_drewN | apply Kd.R_drew)); exact HO_3.out, by repeat (first | (with_reducible first | exact HB.out | apply below_alloc | apply pw_below_drewN | apply below_drew1) | exact HB.out)⟩
    · rw [if_neg c3] at H
      exact absurd H (by simp)
  · rw [if_neg c2] at H
    exact absurd H (by simp)

/-! ### laws_toGrain: function 71 -/
def laws_toGrain.l0 : Nat → Int → Vector Int 16 → Vector Int 16 → Option (Vector Int 16)
  | 0, _, _, _ => none
  | k + 1, x4, x150000, x152000 => if x4 < 16 then (if 0 ≤ x4 then (laws_toGrain.l0 k (wrap64 (x4 + 1)) x150000 (Arr.vst x152000 x4 (Arr.vrd x150000 x4))) else (none)) else (some x152000)
def laws_toGrain.f (k : Nat) (a0_0 : Vector Int 16) : Option (Vector Int 16) := laws_toGrain.l0 k 0 a0_0 (Vector.replicate 16 0 : Vector Int 16)
theorem laws_toGrain.mono_l : ∀ k, (∀ y0 y1 y2, LeO (laws_toGrain.l0 k y0 y1 y2) (laws_toGrain.l0 (k + 1) y0 y1 y2))
  | 0 => fun _ _ _ r h => by simp [laws_toGrain.l0] at h
  | k + 1 => by
    have ih0 := laws_toGrain.mono_l k
    · intro y0 y1 y2
      unfold laws_toGrain.l0
      repeat' first
      | (with_reducible exact ih0 _ _ _)
      | (with_reducible exact LeO.refl _)
      | (with_reducible exact LeO.none _)
      | (with_reducible refine LeO.ite ?_ ?_)
      | (with_reducible refine LeO.bind ?_ (fun _ => ?_))
      | exact ih0 _ _ _
      | exact LeO.none _
      | refine LeO.ite ?_ ?_
      | refine LeO.bind ?_ (fun _ => ?_)
theorem laws_toGrain.mono : ∀ a0 k, LeO (laws_toGrain.f k a0) (laws_toGrain.f (k + 1) a0) := by
  intro a0 k
  have ih0 := laws_toGrain.mono_l k
  unfold laws_toGrain.f
  repeat' first
      | (with_reducible exact ih0 _ _ _)
      | (with_reducible exact LeO.refl _)
      | (with_reducible exact LeO.none _)
      | (with_reducible refine LeO.ite ?_ ?_)
      | (with_reducible refine LeO.bind ?_ (fun _ => ?_))
      | exact ih0 _ _ _
      | exact LeO.none _
      | refine LeO.ite ?_ ?_
      | refine LeO.bind ?_ (fun _ => ?_)
set_option maxHeartbeats 8000000 in
set_option maxRecDepth 100000 in
theorem laws_toGrain.calls (k : Nat) (a0_0 : Vector Int 16) (r : Vector Int 16) (w : World) (h : laws_toGrain.f k a0_0 = some r) :
    Calls Tryd.prog 71 #[.agg (⟨Arr.arL .i8 a0_0⟩ : Array Value)] w fun e w' => e = .returned (.agg (⟨Arr.arL .i8 r⟩ : Array Value)) ∧ Below w.heap.size w w' := by
  have hu37 := Tryd.underlying37
  have hu43 := Tryd.underlying43
  have HB := Aside0.mk (Below.refl w.heap.size w)
  have H : (laws_toGrain.l0 k 0 a0_0 (Vector.replicate 16 0 : Vector Int 16)) = some r := h
  clear h
  have H' := Aside0.mk H
  clear H
  go_enter Tryd.func71, Tryd.ntmps71
  go_wp2_with (first | ((with_reducible refine gate_dst (N := 1) rfl ?_); refine box_event ?hg (N := 1) ?hd (cs := (⟨Arr.arL .i8 a0_0⟩ : Array Value)) (t := 37) ?hr ?_; (case hd => rfl); (case hg => rfl); (case hr => first | (go_simp; done) | (go_simp; rfl)); intro gb149 hg w2 hbox hb; have n0_ := Aside0.mk (below_step (by repeat (first | (with_reducible first | exact HB.out | apply below_alloc | apply pw_below_drewN | apply below_drew1) | exact HB.out)) hb); have n1_ := Aside0.mk (hbox); have n2_ := Aside0.mk ((by rw [hg]; exact (below_size (by repeat (first | (with_reducible first | exact HB.out | apply below_alloc | apply pw_below_drewN | apply below_drew1) | exact HB.out))) : w.heap.size ≤ gb149)); have n3_ := Aside0.mk ((by rw [hg]; exact (below_size (by repeat (first | (with_reducible first | exact HB.out | apply below_alloc | apply pw_below_drewN | apply below_drew1) | exact HB.out))) : w.heap.size ≤ gb149)); clear HB; have HB := n0_; have BK149 := n1_; have GW149 := n2_; have GE149 := n3_; clear n0_ n1_ n2_ n3_; clear hb hbox hg) | ((with_reducible refine gate_dst (N := 2) rfl ?_); refine box_event ?hg (N := 2) ?hd (cs := (⟨Arr.arL .i8 (Vector.replicate 16 0 : Vector Int 16)⟩ : Array Value)) (t := 43) ?hr ?_; (case hd => rfl); (case hg => rfl); (case hr => first | (go_simp; done) | (go_simp; rfl)); intro gb150 hg w3 hbox hb; have n0_ := Aside0.mk (blk_below (g := gb149) (o := .cells (⟨Arr.arL .i8 a0_0⟩ : Array Value) 37 (0, 0)) (by (with_reducible repeat (first | refine blk_drewN ?_ _ | refine blk_drew ?_ | refine blk_alloc ?_ _)); exact BK149.out) hb); have n1_ := Aside0.mk (below_step (by repeat (first | (with_reducible first | exact HB.out | apply below_alloc | apply pw_below_drewN | apply below_drew1 | refine below_set ?_ GE149.out) | exact HB.out)) hb); have n2_ := Aside0.mk (hbox); have n3_ := Aside0.mk ((by rw [hg]; exact (below_size (by repeat (first | (with_reducible first | exact HB.out | apply below_alloc | apply pw_below_drewN | apply below_drew1 | refine below_set ?_ GE149.out) | exact HB.out))) : w.heap.size ≤ gb150)); have n4_ := Aside0.mk ((by rw [hg]; exact (below_size (by repeat (first | (with_reducible first | exact HB.out | apply below_alloc | apply pw_below_drewN | apply below_drew1 | refine below_set ?_ GE149.out) | exact HB.out))) : w.heap.size ≤ gb150)); have n5_ := Aside0.mk ((by rw [hg]; exact Nat.ne_of_lt (blk_lt (g := gb149) (o := .cells (⟨Arr.arL .i8 a0_0⟩ : Array Value) 37 (0, 0)) (by (with_reducible repeat (first | refine blk_drewN ?_ _ | refine blk_drew ?_ | refine blk_alloc ?_ _)); exact BK149.out)) : gb149 ≠ gb150)); have n6_ := Aside0.mk ((by rw [hg]; exact Nat.ne_of_gt (blk_lt (g := gb149) (o := .cells (⟨Arr.arL .i8 a0_0⟩ : Array Value) 37 (0, 0)) (by (with_reducible repeat (first | refine blk_drewN ?_ _ | refine blk_drew ?_ | refine blk_alloc ?_ _)); exact BK149.out)) : gb150 ≠ gb149)); clear BK149; clear HB; have BK149 := n0_; have HB := n1_; have BK150 := n2_; have GW150 := n3_; have GE150 := n4_; have NB149_150 := n5_; have NB150_149 := n6_; clear n0_ n1_ n2_ n3_ n4_ n5_ n6_; clear hb hbox hg) | ((with_reducible refine gate_dst (N := 3) rfl ?_); refine box_event ?hg (N := 3) ?hd (cs := (⟨Arr.arL .i8 (Vector.replicate 16 0 : Vector Int 16)⟩ : Array Value)) (t := 43) ?hr ?_; (case hd => rfl); (case hg => rfl); (case hr => first | (go_simp; done) | (go_simp; rfl)); intro gb151 hg w4 hbox hb; have n0_ := Aside0.mk (blk_below (g := gb149) (o := .cells (⟨Arr.arL .i8 a0_0⟩ : Array Value) 37 (0, 0)) (by (with_reducible repeat (first | refine blk_drewN ?_ _ | refine blk_drew ?_ | refine blk_alloc ?_ _)); exact BK149.out) hb); have n1_ := Aside0.mk (blk_below (g := gb150) (o := .cells (⟨Arr.arL .i8 (Vector.replicate 16 0 : Vector Int 16)⟩ : Array Value) 43 (0, 0)) (by (with_reducible repeat (first | refine blk_drewN ?_ _ | refine blk_drew ?_ | refine blk_alloc ?_ _)); exact BK150.out) hb); have n2_ := Aside0.mk (below_step (by repeat (first | (with_reducible first | exact HB.out | apply below_alloc | apply pw_below_drewN | apply below_drew1 | refine below_set ?_ GE149.out | refine below_set ?_ GE150.out) | exact HB.out)) hb); have n3_ := Aside0.mk (hbox); have n4_ := Aside0.mk ((by rw [hg]; exact (below_size (by repeat (first | (with_reducible first | exact HB.out | apply below_alloc | apply pw_below_drewN | apply below_drew1 | refine below_set ?_ GE149.out | refine below_set ?_ GE150.out) | exact HB.out))) : w.heap.size ≤ gb151)); have n5_ := Aside0.mk ((by rw [hg]; exact (below_size (by repeat (first | (with_reducible first | exact HB.out | apply below_alloc | apply pw_below_drewN | apply below_drew1 | refine below_set ?_ GE149.out | refine below_set ?_ GE150.out) | exact HB.out))) : w.heap.size ≤ gb151)); have n6_ := Aside0.mk ((by rw [hg]; exact Nat.ne_of_lt (blk_lt (g := gb149) (o := .cells (⟨Arr.arL .i8 a0_0⟩ : Array Value) 37 (0, 0)) (by (with_reducible repeat (first | refine blk_drewN ?_ _ | refine blk_drew ?_ | refine blk_alloc ?_ _)); exact BK149.out)) : gb149 ≠ gb151)); have n7_ := Aside0.mk ((by rw [hg]; exact Nat.ne_of_gt (blk_lt (g := gb149) (o := .cells (⟨Arr.arL .i8 a0_0⟩ : Array Value) 37 (0, 0)) (by (with_reducible repeat (first | refine blk_drewN ?_ _ | refine blk_drew ?_ | refine blk_alloc ?_ _)); exact BK149.out)) : gb151 ≠ gb149)); have n8_ := Aside0.mk ((by rw [hg]; exact Nat.ne_of_lt (blk_lt (g := gb150) (o := .cells (⟨Arr.arL .i8 (Vector.replicate 16 0 : Vector Int 16)⟩ : Array Value) 43 (0, 0)) (by (with_reducible repeat (first | refine blk_drewN ?_ _ | refine blk_drew ?_ | refine blk_alloc ?_ _)); exact BK150.out)) : gb150 ≠ gb151)); have n9_ := Aside0.mk ((by rw [hg]; exact Nat.ne_of_gt (blk_lt (g := gb150) (o := .cells (⟨Arr.arL .i8 (Vector.replicate 16 0 : Vector Int 16)⟩ : Array Value) 43 (0, 0)) (by (with_reducible repeat (first | refine blk_drewN ?_ _ | refine blk_drew ?_ | refine blk_alloc ?_ _)); exact BK150.out)) : gb151 ≠ gb150)); clear BK149; clear BK150; clear HB; have BK149 := n0_; have BK150 := n1_; have HB := n2_; have BK151 := n3_; have GW151 := n4_; have GE151 := n5_; have NB149_151 := n6_; have NB151_149 := n7_; have NB150_151 := n8_; have NB151_150 := n9_; clear n0_ n1_ n2_ n3_ n4_ n5_ n6_ n7_ n8_ n9_; clear hb hbox hg))
  go_loopg [4] k (fun kq v4 w' => ∃ (x4_1 : Int) (x152000_1 : Vector Int 16), v4 = .int .i64 x4_1 ∧ Aside0 (laws_toGrain.l0 kq x4_1 a0_0 x152000_1 = some r) ∧ Aside0 (kq ≤ k) ∧ Aside0 (w'.heap[gb149]? = some (.cells (⟨Arr.arL .i8 a0_0⟩ : Array Value) 37 (0, 0))) ∧ Aside0 (w'.heap[gb150]? = some (.cells (⟨Arr.arL .i8 (Vector.replicate 16 0 : Vector Int 16)⟩ : Array Value) 43 (0, 0))) ∧ Aside0 (w'.heap[gb151]? = some (.cells (⟨Arr.arL .i8 x152000_1⟩ : Array Value) 43 (0, 0))) ∧ Aside0 (Below w.heap.size w w'))
  case atStart => exact ⟨(0), ((Vector.replicate 16 0 : Vector Int 16)), (by first | rfl | (simp; done) | (simp [*]; done)), H', ⟨Nat.le_refl _⟩, ⟨by (with_reducible repeat (first | refine blk_drewN ?_ _ | refine blk_drew ?_ | refine blk_alloc ?_ _)); exact BK149.out⟩, ⟨by (with_reducible repeat (first | refine blk_drewN ?_ _ | refine blk_drew ?_ | refine blk_alloc ?_ _)); exact BK150.out⟩, ⟨by (with_reducible repeat (first | refine blk_drewN ?_ _ | refine blk_drew ?_ | refine blk_alloc ?_ _)); exact BK151.out⟩, ⟨by repeat (first | (with_reducible first | exact HB.out | apply below_alloc | apply pw_below_drewN | apply below_drew1 | refine below_set ?_ GE149.out | refine below_set ?_ GE150.out | refine below_set ?_ GE151.out) | exact HB.out)⟩⟩
  case round =>
    clear H'
    try clear p2
    obtain ⟨x4_1, x152000_1, rfl, HA, HK1, BK149, BK150, BK151, HB⟩ := hrel
    cases gk with
    | zero => exact absurd HA.out (by simp [laws_toGrain.l0])
    | succ k1 =>
      have H := HA.out
      clear HA
      simp only [laws_toGrain.l0] at H
      by_cases c5 : x4_1 < 16
      · rw [if_pos c5] at H
        have c5b0 : decide (x4_1 < 16) = true := decide_eq_true c5
        clear c5
        by_cases c6 : 0 ≤ x4_1
        · rw [if_pos c6] at H
          have c6b0 : decide (0 ≤ x4_1) = true := decide_eq_true c6
          clear c6
          obtain ⟨y152, hy152⟩ : ∃ y_ : Vector Int 16, y_ = (Arr.vst x152000_1 x4_1 (Arr.vrd a0_0 x4_1)) := ⟨_, rfl⟩
          replace H : (laws_toGrain.l0 k1 (wrap64 (x4_1 + 1)) a0_0 y152) = some r := by first | (rw [hy152]; with_reducible exact H) | (have H2_ := (Option.bind_some _ _).symm.trans H; rw [hy152]; with_reducible exact H2_) | (have H2_ := (Option.bind_some _ _).symm.trans H; with_reducible exact H2_) | with_reducible exact H | (rw [hy152]; exact H) | exact H
          have Ny152 := Aside0.mk hy152
          clear hy152
          have H' := Aside0.mk H
          clear H
          have p7 : 0 ≤ (x4_1 : Int) := of_decide_eq_true (by first | (with_reducible assumption) | assumption)
          have q7 : (x4_1 : Int) < 16 := of_decide_eq_true (by first | (with_reducible assumption) | assumption)
          replace p7 := eq_true p7
          replace q7 := eq_true q7
          have hx8 : wr.cell? ⟨gb149, x4_1.toNat, none⟩ = some (.int .i8 (Arr.vrd a0_0 x4_1)) := Arr.cellN (off := 0) (l := (Arr.arL .i8 a0_0)) (show wr.heap[gb149]? = some (.cells (⟨Arr.arL .i8 a0_0⟩ : Array Value) 37 (0, 0)) from by (with_reducible repeat (first | refine blk_drewN ?_ _ | refine blk_drew ?_ | refine blk_alloc ?_ _)); exact BK149.out) rfl (x4_1.toNat) (x4_1.toNat) (by omega) (by have a0_ := of_eq_true p7; have b0_ := of_eq_true q7; omega)
          have hf8 := blk_frozen (show wr.heap[gb149]? = some (.cells (⟨Arr.arL .i8 a0_0⟩ : Array Value) 37 (0, 0)) from by (with_reducible repeat (first | refine blk_drewN ?_ _ | refine blk_drew ?_ | refine blk_alloc ?_ _)); exact BK149.out) (x4_1.toNat)
          have p9 : 0 ≤ (x4_1 : Int) := of_decide_eq_true (by first | (with_reducible assumption) | assumption)
          have q9 : (x4_1 : Int) < 16 := of_decide_eq_true (by first | (with_reducible assumption) | assumption)
          replace p9 := eq_true p9
          replace q9 := eq_true q9
          go_wp2_with (first | ((with_reducible refine gate_store (t := 36) (p := 13) rfl ?_); have hx10 : wr.cell? ⟨gb151, x4_1.toNat, none⟩ = some (.int .i8 (Arr.vrd x152000_1 x4_1)) := Arr.cellN (off := 0) (l := (Arr.arL .i8 x152000_1)) (show wr.heap[gb151]? = some (.cells (⟨Arr.arL .i8 x152000_1⟩ : Array Value) 43 (0, 0)) from by (with_reducible repeat (first | refine blk_drewN ?_ _ | refine blk_drew ?_ | refine blk_alloc ?_ _)); exact BK151.out) rfl (x4_1.toNat) (x4_1.toNat) (by omega) (by have a0_ := of_eq_true p9; have b0_ := of_eq_true q9; omega); have hf10 := blk_frozen (show wr.heap[gb151]? = some (.cells (⟨Arr.arL .i8 x152000_1⟩ : Array Value) 43 (0, 0)) from by (with_reducible repeat (first | refine blk_drewN ?_ _ | refine blk_drew ?_ | refine blk_alloc ?_ _)); exact BK151.out) (x4_1.toNat); refine Arr.putN ?hg (T := 36) (p := 13) (v := ?vo_w11) ?ho ?hn (g := gb151) (off := 0) (m := x4_1.toNat) (n := x4_1.toNat) (k := .i8) (y := (Arr.vrd a0_0 x4_1)) (x := x152000_1) (t := 43) (pre := []) (show wr.heap[gb151]? = some (.cells (⟨Arr.arL .i8 x152000_1⟩ : Array Value) 43 (0, 0)) from by (with_reducible repeat (first | refine blk_drewN ?_ _ | refine blk_drew ?_ | refine blk_alloc ?_ _)); exact BK151.out) ?hp (by omega) ?hr ?_; (case ho => rfl); (case hg => rfl); (case hn => rfl); (case hp => rfl); (case hr => first | (go_simp; done) | (go_simp; rfl)); intro w11 hbx hg hbe; replace hbx : w11.heap[gb151]? = some (.cells (⟨Arr.arL .i8 y152⟩ : Array Value) 43 (0, 0)) := (by rw [Ny152.out]; exact hbx); have n0_ := Aside0.mk (blk_grown (g := gb149) (o := .cells (⟨Arr.arL .i8 a0_0⟩ : Array Value) 37 (0, 0)) (by (with_reducible repeat (first | refine blk_drewN ?_ _ | refine blk_drew ?_ | refine blk_alloc ?_ _)); exact BK149.out) hg (fun e_ => NB149_151.out (Option.some.inj e_))); have n1_ := Aside0.mk (blk_grown (g := gb150) (o := .cells (⟨Arr.arL .i8 (Vector.replicate 16 0 : Vector Int 16)⟩ : Array Value) 43 (0, 0)) (by (with_reducible repeat (first | refine blk_drewN ?_ _ | refine blk_drew ?_ | refine blk_alloc ?_ _)); exact BK150.out) hg (fun e_ => NB150_151.out (Option.some.inj e_))); have n2_ := Aside0.mk (hbx); have n3_ := Aside0.mk (hbe _ _ (by repeat (first | (with_reducible first | exact HB.out | apply below_alloc | apply pw_below_drewN | apply below_drew1 | refine below_set ?_ GE149.out | refine below_set ?_ GE150.out | refine below_set ?_ GE151.out) | exact HB.out)) GE151.out); clear BK149; clear BK150; clear BK151; clear HB; have BK149 := n0_; have BK150 := n1_; have BK151 := n2_; have HB := n3_; clear n0_ n1_ n2_ n3_; (try clear hbx hg hbe)))
          go_roundg k1
          case measure => have := HK1.out; omega
          case rel => exact ⟨(wrap64 (x4_1 + 1)), (y152), (by first | rfl | (simp; done) | (simp [*]; done)), H', ⟨by have := HK1.out; omega⟩, ⟨by (with_reducible repeat (first | refine blk_drewN ?_ _ | refine blk_drew ?_ | refine blk_alloc ?_ _)); exact BK149.out⟩, ⟨by (with_reducible repeat (first | refine blk_drewN ?_ _ | refine blk_drew ?_ | refine blk_alloc ?_ _)); exact BK150.out⟩, ⟨by (with_reducible repeat (first | refine blk_drewN ?_ _ | refine blk_drew ?_ | refine blk_alloc ?_ _)); exact BK151.out⟩, ⟨by repeat (first | (with_reducible first | exact HB.out | apply below_alloc | apply pw_below_drewN | apply below_drew1 | refine below_set ?_ GE149.out | refine below_set ?_ GE150.out | refine below_set ?_ GE151.out) | exact HB.out)⟩⟩
        · rw [if_neg c6] at H
          exact absurd H (by simp)
      · rw [if_neg c5] at H
        have c5b0 : decide (x4_1 < 16) = false := decide_eq_false c5
        clear c5
        obtain rfl := Option.some.inj H
        go_wp2_with (first | ((with_reducible refine Arr.gate_load (t := 43) (p := 3) rfl ?_); (try (refine gate_guard (by rfl) ?_; dsimp only)); refine Arr.loadA ?hg (T := 43) (p := 3) ?ho (g := gb151) (off := 0) ?hx (t := 43) (l := (Arr.arL .i8 x152000_1)) (m := (Arr.arL .i8 x152000_1)) (fr := (0, 0)) (show wr.heap[gb151]? = some (.cells (⟨Arr.arL .i8 x152000_1⟩ : Array Value) 43 (0, 0)) from by (with_reducible repeat (first | refine blk_drewN ?_ _ | refine blk_drew ?_ | refine blk_alloc ?_ _)); exact BK151.out) rfl Tryd.underlying43 rfl (n := 16) (by kernel_rfl) (by simp [Arr.arL_length]) ?_; (case hg => rfl); (case ho => rfl); (case hx => first | (go_simp; done) | rfl | (go_simp; rfl))) | ((with_reducible refine gate_store (t := 43) (p := 2) rfl ?_); refine Arr.storeA ?hg (T := 43) (p := 2) (v := ?vo_w14) ?ho ?hn (g := gb150) (off := 0) ?hx (m := (Arr.arL .i8 x152000_1)) ?hy (t := 43) (pre := []) (old := (Arr.arL .i8 (Vector.replicate 16 0 : Vector Int 16))) (show wr.heap[gb150]? = some (.cells (⟨Arr.arL .i8 (Vector.replicate 16 0 : Vector Int 16)⟩ : Array Value) 43 (0, 0)) from by (with_reducible repeat (first | refine blk_drewN ?_ _ | refine blk_drew ?_ | refine blk_alloc ?_ _)); exact BK150.out) rfl (by simp [Arr.arL_length]) (n := 16) (by kernel_rfl) (by simp [Arr.arL_length]) (Arr.ones_0 ) ?_; (case ho => rfl); (case hg => rfl); (case hn => rfl); (case hx => first | (go_simp; done) | rfl | (go_simp; rfl)); (case hy => first | (go_simp; done) | rfl | (go_simp; rfl)); intro w14 hbx hg hbe; replace hbx : w14.heap[gb150]? = some (.cells (⟨Arr.arL .i8 x152000_1⟩ : Array Value) 43 (0, 0)) := hbx; have n0_ := Aside0.mk (blk_grown (g := gb149) (o := .cells (⟨Arr.arL .i8 a0_0⟩ : Array Value) 37 (0, 0)) (by (with_reducible repeat (first | refine blk_drewN ?_ _ | refine blk_drew ?_ | refine blk_alloc ?_ _)); exact BK149.out) hg (fun e_ => NB149_150.out (Option.some.inj e_))); have n1_ := Aside0.mk (hbx); have n2_ := Aside0.mk (blk_grown (g := gb151) (o := .cells (⟨Arr.arL .i8 x152000_1⟩ : Array Value) 43 (0, 0)) (by (with_reducible repeat (first | refine blk_drewN ?_ _ | refine blk_drew ?_ | refine blk_alloc ?_ _)); exact BK151.out) hg (fun e_ => NB151_150.out (Option.some.inj e_))); have n3_ := Aside0.mk (hbe _ _ (by repeat (first | (with_reducible first | exact HB.out | apply below_alloc | apply pw_below_drewN | apply below_drew1 | refine below_set ?_ GE149.out | refine below_set ?_ GE150.out | refine below_set ?_ GE151.out) | exact HB.out)) GE150.out); clear BK149; clear BK150; clear BK151; clear HB; have BK149 := n0_; have BK150 := n1_; have BK151 := n2_; have HB := n3_; clear n0_ n1_ n2_ n3_; (try clear hbx hg hbe)))
        refine bodyPost_ret (results_cell_row rfl _ _ gb150 43 (⟨Arr.arL .i8 x152000_1⟩ : Array Value) (0, 0) _ rfl (by (with_reducible repeat (first | refine blk_drewN ?_ _ | refine blk_drew ?_ | refine blk_alloc ?_ _)); exact BK150.out) Tryd.underlying43 rfl (by rw [show (Tryd.prog.info? 43).map (·.size) = some 16 from by kernel_rfl]; simp [Arr.arL_length])) rfl ?_
        exact ⟨by first | rfl | (simp [errW_none, errW_some] <;> rfl) | (simp [*, errW_none, errW_some] <;> rfl), by repeat (first | (with_reducible first | exact HB.out | apply below_alloc | apply pw_below_drewN | apply below_drew1 | refine below_set ?_ GE149.out | refine below_set ?_ GE150.out | refine below_set ?_ GE151.out) | exact HB.out)⟩

/-! ### laws_toHalf: function 23 -/
def laws_toHalf.f (k : Nat) (a0_0 : Bool) (l0_1 : List (S129)) (a0_2 : Vector Int 16) : Option (Bool × (List (S62)) × Vector Int 16) := (laws_toNotchS.f k l0_1).bind fun t156 => ((laws_toGrain.f k a0_2).bind fun t159 => (some (a0_0, t156, t159)))
theorem laws_toHalf.mono : ∀ a0 a1 a2 k, LeO (laws_toHalf.f k a0 a1 a2) (laws_toHalf.f (k + 1) a0 a1 a2) := by
  intro a0 a1 a2 k
  unfold laws_toHalf.f
  repeat' first
      | (with_reducible exact laws_toGrain.mono _ _)
      | (with_reducible exact laws_toNotchS.mono _ _)
      | (with_reducible exact LeO.refl _)
      | (with_reducible exact LeO.none _)
      | (with_reducible refine LeO.ite ?_ ?_)
      | (with_reducible refine LeO.bind ?_ (fun _ => ?_))
      | exact laws_toGrain.mono _ _
      | exact laws_toNotchS.mono _ _
      | exact LeO.none _
      | refine LeO.ite ?_ ?_
      | refine LeO.bind ?_ (fun _ => ?_)
set_option maxHeartbeats 8000000 in
set_option maxRecDepth 100000 in
theorem laws_toHalf.calls (k : Nat) (a0_0 : Bool) (A0_1 : Option Addr) (c0_1 : Nat) (l0_1 : List (S129)) (a0_2 : Vector Int 16) (r1 : Bool) (r2 : List (S62)) (r3 : Vector Int 16) (w : World) (hr0_1 : Kd.C k129 w A0_1 l0_1.length l0_1) (hc0_1 : l0_1.length ≤ c0_1) (h : laws_toHalf.f k a0_0 l0_1 a0_2 = some (r1, r2, r3)) :
    Calls Tryd.prog 23 #[.agg (⟨(.bool a0_0) :: (.slice A0_1 l0_1.length c0_1) :: Arr.arL .i8 a0_2⟩ : Array Value)] w fun e w' => ∃ v1_ : Value, e = .returned (.agg (⟨(.bool r1) :: (v1_) :: Arr.arL .i8 r3⟩ : Array Value)) ∧ Kd.R k62 62 w' w.heap.size (fun _ => True) v1_ r2 ∧ Below w.heap.size w w' := by
  have hu39 := Tryd.underlying39
  have hu45 := Tryd.underlying45
  have hu37 := Tryd.underlying37
  have hu43 := Tryd.underlying43
  have HR0_1 := Aside0.mk hr0_1
  have HC0_1 := Aside0.mk hc0_1
  clear hr0_1 hc0_1
  have HB := Aside0.mk (Below.refl w.heap.size w)
  have H : ((laws_toNotchS.f k l0_1).bind fun t156 => ((laws_toGrain.f k a0_2).bind fun t159 => (some (a0_0, t156, t159)))) = some (r1, r2, r3) := h
  clear h
  replace H := Option.bind_eq_some_iff.mp H
  obtain ⟨t156, A20, H⟩ := H
  replace H : ((laws_toGrain.f k a0_2).bind fun t159 => (some (a0_0, t156, t159))) = some (r1, r2, r3) := H
  have A2 := Aside0.mk A20
  clear A20
  replace H := Option.bind_eq_some_iff.mp H
  obtain ⟨t159, A40, H⟩ := H
  replace H : (some (a0_0, t156, t159)) = some (r1, r2, r3) := H
  have A4 := Aside0.mk A40
  clear A40
  simp only [Option.some.injEq, Prod.mk.injEq] at H
  obtain ⟨rfl, rfl, rfl⟩ := H
  go_enter Tryd.func23, Tryd.ntmps23
  go_wp2_with (first | ((with_reducible refine gate_dst (N := 1) rfl ?_); refine box_event ?hg (N := 1) ?hd (cs := (⟨(.bool a0_0) :: (.slice A0_1 l0_1.length c0_1) :: Arr.arL .i8 a0_2⟩ : Array Value)) (t := 39) ?hr ?_; (case hd => rfl); (case hg => rfl); (case hr => first | (go_simp; done) | (go_simp; rfl)); intro gb153 hg w8 hbox hb; have n0_ := Aside0.mk (below_step (by repeat (first | (with_reducible first | exact HB.out | apply below_alloc | apply pw_below_drewN | apply below_drew1) | exact HB.out)) hb); have n1_ := Aside0.mk (hbox); have n2_ := Aside0.mk ((by rw [hg]; exact (below_size (by repeat (first | (with_reducible first | exact HB.out | apply below_alloc | apply pw_below_drewN | apply below_drew1) | exact HB.out))) : w.heap.size ≤ gb153)); have n3_ := Aside0.mk ((by rw [hg]; exact (below_size (by repeat (first | (with_reducible first | exact HB.out | apply below_alloc | apply pw_below_drewN | apply below_drew1) | exact HB.out))) : w.heap.size ≤ gb153)); clear HB; have HB := n0_; have BK153 := n1_; have GW153 := n2_; have GE153 := n3_; clear n0_ n1_ n2_ n3_; clear hb hbox hg) | ((with_reducible refine gate_dst (N := 2) rfl ?_); refine box_event ?hg (N := 2) ?hd (cs := (⟨(.bool false) :: (.slice none 0 0) :: Arr.arL .i8 (Vector.replicate 16 0 : Vector Int 16)⟩ : Array Value)) (t := 45) ?hr ?_; (case hd => rfl); (case hg => rfl); (case hr => first | (go_simp; done) | (go_simp; rfl)); intro gb154 hg w9 hbox hb; have n0_ := Aside0.mk (blk_below (g := gb153) (o := .cells (⟨(.bool a0_0) :: (.slice A0_1 l0_1.length c0_1) :: Arr.arL .i8 a0_2⟩ : Array Value) 39 (0, 0)) (by (with_reducible repeat (first | refine blk_drewN ?_ _ | refine blk_drew ?_ | refine blk_alloc ?_ _)); exact BK153.out) hb); have n1_ := Aside0.mk (below_step (by repeat (first | (with_reducible first | exact HB.out | apply below_alloc | apply pw_below_drewN | apply below_drew1 | refine below_set ?_ GE153.out) | exact HB.out)) hb); have n2_ := Aside0.mk (hbox); have n3_ := Aside0.mk ((by rw [hg]; exact (below_size (by repeat (first | (with_reducible first | exact HB.out | apply below_alloc | apply pw_below_drewN | apply below_drew1 | refine below_set ?_ GE153.out) | exact HB.out))) : w.heap.size ≤ gb154)); have n4_ := Aside0.mk ((by rw [hg]; exact (below_size (by repeat (first | (with_reducible first | exact HB.out | apply below_alloc | apply pw_below_drewN | apply below_drew1 | refine below_set ?_ GE153.out) | exact HB.out))) : w.heap.size ≤ gb154)); have n5_ := Aside0.mk ((by rw [hg]; exact Nat.ne_of_lt (blk_lt (g := gb153) (o := .cells (⟨(.bool a0_0) :: (.slice A0_1 l0_1.length c0_1) :: Arr.arL .i8 a0_2⟩ : Array Value) 39 (0, 0)) (by (with_reducible repeat (first | refine blk_drewN ?_ _ | refine blk_drew ?_ | refine blk_alloc ?_ _)); exact BK153.out)) : gb153 ≠ gb154)); have n6_ := Aside0.mk ((by rw [hg]; exact Nat.ne_of_gt (blk_lt (g := gb153) (o := .cells (⟨(.bool a0_0) :: (.slice A0_1 l0_1.length c0_1) :: Arr.arL .i8 a0_2⟩ : Array Value) 39 (0, 0)) (by (with_reducible repeat (first | refine blk_drewN ?_ _ | refine blk_drew ?_ | refine blk_alloc ?_ _)); exact BK153.out)) : gb154 ≠ gb153)); clear BK153; clear HB; have BK153 := n0_; have HB := n1_; have BK154 := n2_; have GW154 := n3_; have GE154 := n4_; have NB153_154 := n5_; have NB154_153 := n6_; clear n0_ n1_ n2_ n3_ n4_ n5_ n6_; clear hb hbox hg) | ((with_reducible refine gate_dst (N := 3) rfl ?_); refine box_event ?hg (N := 3) ?hd (cs := (⟨(.bool false) :: (.slice none 0 0) :: Arr.arL .i8 (Vector.replicate 16 0 : Vector Int 16)⟩ : Array Value)) (t := 45) ?hr ?_; (case hd => rfl); (case hg => rfl); (case hr => first | (go_simp; done) | (go_simp; rfl)); intro gb155 hg w10 hbox hb; have n0_ := Aside0.mk (blk_below (g := gb153) (o := .cells (⟨(.bool a0_0) :: (.slice A0_1 l0_1.length c0_1) :: Arr.arL .i8 a0_2⟩ : Array Value) 39 (0, 0)) (by (with_reducible repeat (first | refine blk_drewN ?_ _ | refine blk_drew ?_ | refine blk_alloc ?_ _)); exact BK153.out) hb); have n1_ := Aside0.mk (blk_below (g := gb154) (o := .cells (⟨(.bool false) :: (.slice none 0 0) :: Arr.arL .i8 (Vector.replicate 16 0 : Vector Int 16)⟩ : Array Value) 45 (0, 0)) (by (with_reducible repeat (first | refine blk_drewN ?_ _ | refine blk_drew ?_ | refine blk_alloc ?_ _)); exact BK154.out) hb); have n2_ := Aside0.mk (below_step (by repeat (first | (with_reducible first | exact HB.out | apply below_alloc | apply pw_below_drewN | apply below_drew1 | refine below_set ?_ GE153.out | refine below_set ?_ GE154.out) | exact HB.out)) hb); have n3_ := Aside0.mk (hbox); have n4_ := Aside0.mk ((by rw [hg]; exact (below_size (by repeat (first | (with_reducible first | exact HB.out | apply below_alloc | apply pw_below_drewN | apply below_drew1 | refine below_set ?_ GE153.out | refine below_set ?_ GE154.out) | exact HB.out))) : w.heap.size ≤ gb155)); have n5_ := Aside0.mk ((by rw [hg]; exact (below_size (by repeat (first | (with_reducible first | exact HB.out | apply below_alloc | apply pw_below_drewN | apply below_drew1 | refine below_set ?_ GE153.out | refine below_set ?_ GE154.out) | exact HB.out))) : w.heap.size ≤ gb155)); have n6_ := Aside0.mk ((by rw [hg]; exact Nat.ne_of_lt (blk_lt (g := gb153) (o := .cells (⟨(.bool a0_0) :: (.slice A0_1 l0_1.length c0_1) :: Arr.arL .i8 a0_2⟩ : Array Value) 39 (0, 0)) (by (with_reducible repeat (first | refine blk_drewN ?_ _ | refine blk_drew ?_ | refine blk_alloc ?_ _)); exact BK153.out)) : gb153 ≠ gb155)); have n7_ := Aside0.mk ((by rw [hg]; exact Nat.ne_of_gt (blk_lt (g := gb153) (o := .cells (⟨(.bool a0_0) :: (.slice A0_1 l0_1.length c0_1) :: Arr.arL .i8 a0_2⟩ : Array Value) 39 (0, 0)) (by (with_reducible repeat (first | refine blk_drewN ?_ _ | refine blk_drew ?_ | refine blk_alloc ?_ _)); exact BK153.out)) : gb155 ≠ gb153)); have n8_ := Aside0.mk ((by rw [hg]; exact Nat.ne_of_lt (blk_lt (g := gb154) (o := .cells (⟨(.bool false) :: (.slice none 0 0) :: Arr.arL .i8 (Vector.replicate 16 0 : Vector Int 16)⟩ : Array Value) 45 (0, 0)) (by (with_reducible repeat (first | refine blk_drewN ?_ _ | refine blk_drew ?_ | refine blk_alloc ?_ _)); exact BK154.out)) : gb154 ≠ gb155)); have n9_ := Aside0.mk ((by rw [hg]; exact Nat.ne_of_gt (blk_lt (g := gb154) (o := .cells (⟨(.bool false) :: (.slice none 0 0) :: Arr.arL .i8 (Vector.replicate 16 0 : Vector Int 16)⟩ : Array Value) 45 (0, 0)) (by (with_reducible repeat (first | refine blk_drewN ?_ _ | refine blk_drew ?_ | refine blk_alloc ?_ _)); exact BK154.out)) : gb155 ≠ gb154)); clear BK153; clear BK154; clear HB; have BK153 := n0_; have BK154 := n1_; have HB := n2_; have BK155 := n3_; have GW155 := n4_; have GE155 := n5_; have NB153_155 := n6_; have NB155_153 := n7_; have NB154_155 := n8_; have NB155_154 := n9_; clear n0_ n1_ n2_ n3_ n4_ n5_ n6_ n7_ n8_ n9_; clear hb hbox hg; have hnb11 := NB153_154.out; have hnc11 := NB154_153.out; have hnb12 := NB153_155.out; have hnc12 := NB155_153.out; have hcz13_0 : w10.cell? ⟨gb153, 0, none⟩ = some (.bool a0_0) := (blk_cell BK153.out 0).trans rfl; have hcz13_1 : w10.cell? ⟨gb153, 1, none⟩ = some (.slice A0_1 l0_1.length c0_1) := (blk_cell BK153.out 1).trans rfl; have hfz13_0 := blk_frozen BK153.out 0; have hfz13_1 := blk_frozen BK153.out 1; have hnb14 := NB155_154.out; have hnc14 := NB154_155.out; have hcz15_0 : w10.cell? ⟨gb155, 0, none⟩ = some (.bool false) := (blk_cell BK155.out 0).trans rfl; have hcz15_1 : w10.cell? ⟨gb155, 1, none⟩ = some (.slice none 0 0) := (blk_cell BK155.out 1).trans rfl; have hfz15_0 := blk_frozen BK155.out 0; have hfz15_1 := blk_frozen BK155.out 1) | ((with_reducible refine gate_callee (f := 70) rfl ?_); refine goesL_ (some 9) rfl rfl Tryd.func70 (by kernel_rfl) rfl #[.slice A0_1 l0_1.length c0_1] rfl (by (try simp only [List.map_toArray, List.map_cons, List.map_nil]); first | done | (go_simp; done) | rfl | (simp only [List.length_drop, List.length_take]; rfl)) ?_; (with_reducible refine (laws_toNotchS.calls k _ _ l0_1 t156 _ ?side1 ?side2 A2.out).mono ?_); (case side1 => exact Kd.C_below HR0_1.out (by repeat (first | (with_reducible first | exact HB.out | apply below_alloc | apply pw_below_drewN | apply below_drew1 | refine below_set ?_ GE153.out | refine below_set ?_ GE154.out | refine below_set ?_ GE155.out) | exact HB.out))); (case side2 => exact HC0_1.out); rintro e w16 ⟨v157, rfl, ho0, hb⟩; refine ⟨_, rfl, ?_⟩; have n0_ := Aside0.mk (Kd.R_lower ho0 (below_size (by repeat (first | (with_reducible first | exact HB.out | apply below_alloc | apply pw_below_drewN | apply below_drew1 | refine below_set ?_ GE153.out | refine below_set ?_ GE154.out | refine below_set ?_ GE155.out) | exact HB.out)))); have n1_ := Aside0.mk (blk_below (g := gb153) (o := .cells (⟨(.bool a0_0) :: (.slice A0_1 l0_1.length c0_1) :: Arr.arL .i8 a0_2⟩ : Array Value) 39 (0, 0)) (by (with_reducible repeat (first | refine blk_drewN ?_ _ | refine blk_drew ?_ | refine blk_alloc ?_ _)); refine blk_far ?_ NB153_155.out _; (with_reducible repeat (first | refine blk_drewN ?_ _ | refine blk_drew ?_ | refine blk_alloc ?_ _)); exact BK153.out) hb); have n2_ := Aside0.mk (blk_below (g := gb154) (o := .cells (⟨(.bool false) :: (.slice none 0 0) :: Arr.arL .i8 (Vector.replicate 16 0 : Vector Int 16)⟩ : Array Value) 45 (0, 0)) (by (with_reducible repeat (first | refine blk_drewN ?_ _ | refine blk_drew ?_ | refine blk_alloc ?_ _)); refine blk_far ?_ NB154_155.out _; (with_reducible repeat (first | refine blk_drewN ?_ _ | refine blk_drew ?_ | refine blk_alloc ?_ _)); exact BK154.out) hb); have n3_ := Aside0.mk (blk_below (g := gb155) (o := .cells (⟨(.bool a0_0) :: (.slice none 0 0) :: Arr.arL .i8 (Vector.replicate 16 0 : Vector Int 16)⟩ : Array Value) 45 (0, 0)) (by (with_reducible repeat (first | refine blk_drewN ?_ _ | refine blk_drew ?_ | refine blk_alloc ?_ _)); refine blk_put (cs := (⟨(.bool false) :: (.slice none 0 0) :: Arr.arL .i8 (Vector.replicate 16 0 : Vector Int 16)⟩ : Array Value)) ?_ 0 _ rfl; (with_reducible repeat (first | refine blk_drewN ?_ _ | refine blk_drew ?_ | refine blk_alloc ?_ _)); exact BK155.out) hb); have n4_ := Aside0.mk (below_step (by repeat (first | (with_reducible first | exact HB.out | apply below_alloc | apply pw_below_drewN | apply below_drew1 | refine below_set ?_ GE153.out | refine below_set ?_ GE154.out | refine below_set ?_ GE155.out) | exact HB.out)) hb); clear BK153; clear BK154; clear BK155; clear HB; have HO158 := n0_; have BK153 := n1_; have BK154 := n2_; have BK155 := n3_; have HB := n4_; clear n0_ n1_ n2_ n3_ n4_; (try clear hb); (try clear hb2); (try clear hk); (try clear hi); (try clear ho0); obtain ⟨Ao17, co17, eo17⟩ := Kd.R_slice HO158.out; subst eo17; have hcz18_0 : w16.cell? ⟨gb155, 0, none⟩ = some (.bool a0_0) := (blk_cell BK155.out 0).trans rfl; have hcz18_1 : w16.cell? ⟨gb155, 1, none⟩ = some (.slice none 0 0) := (blk_cell BK155.out 1).trans rfl; have hfz18_0 := blk_frozen BK155.out 0; have hfz18_1 := blk_frozen BK155.out 1) | ((with_reducible refine gate_store (t := 42) (p := 10) rfl ?_); refine store_event (t := 42) (p := 10) (v := ?vo_w19) (w1 := (w16.setCell ⟨gb155, 1, none⟩ (.slice Ao17 t156.length co17))) ?hg ?ho ?hn ?hr ?_; (case ho => rfl); (case hg => rfl); (case hn => rfl); (case hr => first | (go_simp; done) | (go_simp; rfl)); intro w19 hw; have n0_ : Aside0 (Kd.R k62 62 w19 w.heap.size (fun _ => True) (.slice Ao17 t156.length co17) t156) := ⟨(by rw [hw]; exact (by (with_reducible repeat (first | apply Kd.R_alloc | apply Kd.R_drewN | apply Kd.R_drew)); exact Kd.R_mono (Kd.R_far (p := ⟨gb155, 1, none⟩) (Kd.R_types HO158.out BK155.out (by decide)) (fun _ hk => hk.2) (.slice Ao17 t156.length co17)) (fun _ hk => trivial)))⟩; have n1_ : Aside0 (w19.heap[gb153]? = some (.cells (⟨(.bool a0_0) :: (.slice A0_1 l0_1.length c0_1) :: Arr.arL .i8 a0_2⟩ : Array Value) 39 (0, 0))) := ⟨(by rw [hw]; exact (by (with_reducible repeat (first | refine blk_drewN ?_ _ | refine blk_drew ?_ | refine blk_alloc ?_ _)); refine blk_far ?_ NB153_155.out _; (with_reducible repeat (first | refine blk_drewN ?_ _ | refine blk_drew ?_ | refine blk_alloc ?_ _)); exact BK153.out))⟩; have n2_ : Aside0 (w19.heap[gb154]? = some (.cells (⟨(.bool false) :: (.slice none 0 0) :: Arr.arL .i8 (Vector.replicate 16 0 : Vector Int 16)⟩ : Array Value) 45 (0, 0))) := ⟨(by rw [hw]; exact (by (with_reducible repeat (first | refine blk_drewN ?_ _ | refine blk_drew ?_ | refine blk_alloc ?_ _)); refine blk_far ?_ NB154_155.out _; (with_reducible repeat (first | refine blk_drewN ?_ _ | refine blk_drew ?_ | refine blk_alloc ?_ _)); exact BK154.out))⟩; have n3_ : Aside0 (w19.heap[gb155]? = some (.cells (⟨(.bool a0_0) :: (.slice Ao17 t156.length co17) :: Arr.arL .i8 (Vector.replicate 16 0 : Vector Int 16)⟩ : Array Value) 45 (0, 0))) := ⟨(by rw [hw]; exact (by (with_reducible repeat (first | refine blk_drewN ?_ _ | refine blk_drew ?_ | refine blk_alloc ?_ _)); refine blk_put (cs := (⟨(.bool a0_0) :: (.slice none 0 0) :: Arr.arL .i8 (Vector.replicate 16 0 : Vector Int 16)⟩ : Array Value)) ?_ 1 _ rfl; (with_reducible repeat (first | refine blk_drewN ?_ _ | refine blk_drew ?_ | refine blk_alloc ?_ _)); exact BK155.out))⟩; have n4_ : Aside0 (Below w.heap.size w w19) := ⟨(by rw [hw]; exact (by repeat (first | (with_reducible first | exact HB.out | apply below_alloc | apply pw_below_drewN | apply below_drew1 | refine below_set ?_ GE153.out | refine below_set ?_ GE154.out | refine below_set ?_ GE155.out) | exact HB.out)))⟩; clear hw; clear HO158; clear BK153; clear BK154; clear BK155; clear HB; have HO158 := n0_; have BK153 := n1_; have BK154 := n2_; have BK155 := n3_; have HB := n4_; clear n0_ n1_ n2_ n3_ n4_) | ((with_reducible refine Arr.gate_load (t := 37) (p := 11) rfl ?_); (try (refine gate_guard (by rfl) ?_; dsimp only)); refine Arr.loadA ?hg (T := 37) (p := 11) ?ho (g := gb153) (off := 2) ?hx (t := 39) (l := ((.bool a0_0) :: (.slice A0_1 l0_1.length c0_1) :: Arr.arL .i8 a0_2)) (m := (Arr.arL .i8 a0_2)) (fr := (0, 0)) (show w19.heap[gb153]? = some (.cells (⟨(.bool a0_0) :: (.slice A0_1 l0_1.length c0_1) :: Arr.arL .i8 a0_2⟩ : Array Value) 39 (0, 0)) from by (with_reducible repeat (first | refine blk_drewN ?_ _ | refine blk_drew ?_ | refine blk_alloc ?_ _)); exact BK153.out) rfl Tryd.underlying37 rfl (n := 16) (by kernel_rfl) (by simp [Arr.arL_length]) ?_; (case hg => rfl); (case ho => rfl); (case hx => first | (go_simp; done) | rfl | (go_simp; rfl))) | ((with_reducible refine gate_callee (f := 71) rfl ?_); refine goesL_ (some 13) rfl rfl Tryd.func71 (by kernel_rfl) rfl #[.agg (⟨Arr.arL .i8 a0_2⟩ : Array Value)] rfl (by (try simp only [List.map_toArray, List.map_cons, List.map_nil]); first | done | (go_simp; done) | rfl | (simp only [List.length_drop, List.length_take]; rfl)) ?_; (with_reducible refine (laws_toGrain.calls k a0_2 t159 _ A4.out).mono ?_); rintro e w20 ⟨rfl, hb⟩; refine ⟨_, rfl, ?_⟩; have n0_ := Aside0.mk (Kd.R_below (by (with_reducible repeat (first | apply Kd.R_alloc | apply Kd.R_drewN | apply Kd.R_drew)); exact HO158.out) hb); have n1_ := Aside0.mk (blk_below (g := gb153) (o := .cells (⟨(.bool a0_0) :: (.slice A0_1 l0_1.length c0_1) :: Arr.arL .i8 a0_2⟩ : Array Value) 39 (0, 0)) (by (with_reducible repeat (first | refine blk_drewN ?_ _ | refine blk_drew ?_ | refine blk_alloc ?_ _)); exact BK153.out) hb); have n2_ := Aside0.mk (blk_below (g := gb154) (o := .cells (⟨(.bool false) :: (.slice none 0 0) :: Arr.arL .i8 (Vector.replicate 16 0 : Vector Int 16)⟩ : Array Value) 45 (0, 0)) (by (with_reducible repeat (first | refine blk_drewN ?_ _ | refine blk_drew ?_ | refine blk_alloc ?_ _)); exact BK154.out) hb); have n3_ := Aside0.mk (blk_below (g := gb155) (o := .cells (⟨(.bool a0_0) :: (.slice Ao17 t156.length co17) :: Arr.arL .i8 (Vector.replicate 16 0 : Vector Int 16)⟩ : Array Value) 45 (0, 0)) (by (with_reducible repeat (first | refine blk_drewN ?_ _ | refine blk_drew ?_ | refine blk_alloc ?_ _)); exact BK155.out) hb); have n4_ := Aside0.mk (below_step (by repeat (first | (with_reducible first | exact HB.out | apply below_alloc | apply pw_below_drewN | apply below_drew1 | refine below_set ?_ GE153.out | refine below_set ?_ GE154.out | refine below_set ?_ GE155.out) | exact HB.out)) hb); clear HO158; clear BK153; clear BK154; clear BK155; clear HB; have HO158 := n0_; have BK153 := n1_; have BK154 := n2_; have BK155 := n3_; have HB := n4_; clear n0_ n1_ n2_ n3_ n4_; (try clear hb); (try clear hb2); (try clear hk); (try clear hi)) | ((with_reducible refine gate_store (t := 43) (p := 14) rfl ?_); refine Arr.storeA ?hg (T := 43) (p := 14) (v := ?vo_w21) ?ho ?hn (g := gb155) (off := 2) ?hx (m := (Arr.arL .i8 t159)) ?hy (t := 45) (pre := [.bool a0_0, .slice Ao17 t156.length co17]) (old := (Arr.arL .i8 (Vector.replicate 16 0 : Vector Int 16))) (show w20.heap[gb155]? = some (.cells (⟨(.bool a0_0) :: (.slice Ao17 t156.length co17) :: Arr.arL .i8 (Vector.replicate 16 0 : Vector Int 16)⟩ : Array Value) 45 (0, 0)) from by (with_reducible repeat (first | refine blk_drewN ?_ _ | refine blk_drew ?_ | refine blk_alloc ?_ _)); exact BK155.out) rfl (by simp [Arr.arL_length]) (n := 16) (by kernel_rfl) (by simp [Arr.arL_length]) (Arr.ones_0 ) ?_; (case ho => rfl); (case hg => rfl); (case hn => rfl); (case hx => first | (go_simp; done) | rfl | (go_simp; rfl)); (case hy => first | (go_simp; done) | rfl | (go_simp; rfl)); intro w21 hbx hg hbe; replace hbx : w21.heap[gb155]? = some (.cells (⟨(.bool a0_0) :: (.slice Ao17 t156.length co17) :: Arr.arL .i8 t159⟩ : Array Value) 45 (0, 0)) := hbx; have n0_ := Aside0.mk (blk_grown (g := gb153) (o := .cells (⟨(.bool a0_0) :: (.slice A0_1 l0_1.length c0_1) :: Arr.arL .i8 a0_2⟩ : Array Value) 39 (0, 0)) (by (with_reducible repeat (first | refine blk_drewN ?_ _ | refine blk_drew ?_ | refine blk_alloc ?_ _)); exact BK153.out) hg (fun e_ => NB153_155.out (Option.some.inj e_))); have n1_ := Aside0.mk (blk_grown (g := gb154) (o := .cells (⟨(.bool false) :: (.slice none 0 0) :: Arr.arL .i8 (Vector.replicate 16 0 : Vector Int 16)⟩ : Array Value) 45 (0, 0)) (by (with_reducible repeat (first | refine blk_drewN ?_ _ | refine blk_drew ?_ | refine blk_alloc ?_ _)); exact BK154.out) hg (fun e_ => NB154_155.out (Option.some.inj e_))); have n2_ := Aside0.mk (hbx); have n3_ := Aside0.mk (Kd.R_grown1 (by (with_reducible repeat (first | apply Kd.R_alloc | apply Kd.R_drewN | apply Kd.R_drew)); exact HO158.out) rfl hg (Kd.R_ne HO158.out BK155.out (by decide))); have n4_ := Aside0.mk (hbe _ _ (by repeat (first | (with_reducible first | exact HB.out | apply below_alloc | apply pw_below_drewN | apply below_drew1 | refine below_set ?_ GE153.out | refine below_set ?_ GE154.out | refine below_set ?_ GE155.out) | exact HB.out)) GE155.out); clear BK153; clear BK154; clear BK155; clear HO158; clear HB; have BK153 := n0_; have BK154 := n1_; have BK155 := n2_; have HO158 := n3_; have HB := n4_; clear n0_ n1_ n2_ n3_ n4_; (try clear hbx hg hbe)) | ((with_reducible refine Arr.gate_load (t := 45) (p := 3) rfl ?_); (try (refine gate_guard (by rfl) ?_; dsimp only)); refine Arr.loadA ?hg (T := 45) (p := 3) ?ho (g := gb155) (off := 0) ?hx (t := 45) (l := ((.bool a0_0) :: (.slice Ao17 t156.length co17) :: Arr.arL .i8 t159)) (m := ((.bool a0_0) :: (.slice Ao17 t156.length co17) :: Arr.arL .i8 t159)) (fr := (0, 0)) (show w21.heap[gb155]? = some (.cells (⟨(.bool a0_0) :: (.slice Ao17 t156.length co17) :: Arr.arL .i8 t159⟩ : Array Value) 45 (0, 0)) from by (with_reducible repeat (first | refine blk_drewN ?_ _ | refine blk_drew ?_ | refine blk_alloc ?_ _)); exact BK155.out) rfl Tryd.underlying45 rfl (n := 18) (by kernel_rfl) (by simp [Arr.arL_length]) ?_; (case hg => rfl); (case ho => rfl); (case hx => first | (go_simp; done) | rfl | (go_simp; rfl))) | ((with_reducible refine gate_store (t := 45) (p := 2) rfl ?_); refine Arr.storeA ?hg (T := 45) (p := 2) (v := ?vo_w22) ?ho ?hn (g := gb154) (off := 0) ?hx (m := ((.bool a0_0) :: (.slice Ao17 t156.length co17) :: Arr.arL .i8 t159)) ?hy (t := 45) (pre := []) (old := ((.bool false) :: (.slice none 0 0) :: Arr.arL .i8 (Vector.replicate 16 0 : Vector Int 16))) (show w21.heap[gb154]? = some (.cells (⟨(.bool false) :: (.slice none 0 0) :: Arr.arL .i8 (Vector.replicate 16 0 : Vector Int 16)⟩ : Array Value) 45 (0, 0)) from by (with_reducible repeat (first | refine blk_drewN ?_ _ | refine blk_drew ?_ | refine blk_alloc ?_ _)); exact BK154.out) rfl (by simp [Arr.arL_length]) (n := 18) (by kernel_rfl) (by simp [Arr.arL_length]) (Arr.ones_2 rfl rfl) ?_; (case ho => rfl); (case hg => rfl); (case hn => rfl); (case hx => first | (go_simp; done) | rfl | (go_simp; rfl)); (case hy => first | (go_simp; done) | rfl | (go_simp; rfl)); intro w22 hbx hg hbe; replace hbx : w22.heap[gb154]? = some (.cells (⟨(.bool a0_0) :: (.slice Ao17 t156.length co17) :: Arr.arL .i8 t159⟩ : Array Value) 45 (0, 0)) := hbx; have n0_ := Aside0.mk (blk_grown (g := gb153) (o := .cells (⟨(.bool a0_0) :: (.slice A0_1 l0_1.length c0_1) :: Arr.arL .i8 a0_2⟩ : Array Value) 39 (0, 0)) (by (with_reducible repeat (first | refine blk_drewN ?_ _ | refine blk_drew ?_ | refine blk_alloc ?_ _)); exact BK153.out) hg (fun e_ => NB153_154.out (Option.some.inj e_))); have n1_ := Aside0.mk (hbx); have n2_ := Aside0.mk (blk_grown (g := gb155) (o := .cells (⟨(.bool a0_0) :: (.slice Ao17 t156.length co17) :: Arr.arL .i8 t159⟩ : Array Value) 45 (0, 0)) (by (with_reducible repeat (first | refine blk_drewN ?_ _ | refine blk_drew ?_ | refine blk_alloc ?_ _)); exact BK155.out) hg (fun e_ => NB155_154.out (Option.some.inj e_))); have n3_ := Aside0.mk (Kd.R_grown1 (by (with_reducible repeat (first | apply Kd.R_alloc | apply Kd.R_drewN | apply Kd.R_drew)); exact HO158.out) rfl hg (Kd.R_ne HO158.out BK154.out (by decide))); have n4_ := Aside0.mk (hbe _ _ (by repeat (first | (with_reducible first | exact HB.out | apply below_alloc | apply pw_below_drewN | apply below_drew1 | refine below_set ?_ GE153.out | refine below_set ?_ GE154.out | refine below_set ?_ GE155.out) | exact HB.out)) GE154.out); clear BK153; clear BK154; clear BK155; clear HO158; clear HB; have BK153 := n0_; have BK154 := n1_; have BK155 := n2_; have HO158 := n3_; have HB := n4_; clear n0_ n1_ n2_ n3_ n4_; (try clear hbx hg hbe)))
  refine bodyPost_ret (results_cell_row rfl _ _ gb154 45 (⟨(.bool a0_0) :: (.slice Ao17 t156.length co17) :: Arr.arL .i8 t159⟩ : Array Value) (0, 0) _ rfl (by (with_reducible repeat (first | refine blk_drewN ?_ _ | refine blk_drew ?_ | refine blk_alloc ?_ _)); exact BK154.out) Tryd.underlying45 rfl (by rw [show (Tryd.prog.info? 45).map (·.size) = some 18 from by kernel_rfl]; simp [Arr.arL_length])) rfl ?_
  exact ⟨_, by first | rfl | (simp [errW_none, errW_some] <;> rfl) | (simp [*, errW_none, errW_some] <;> rfl), by (with_reducible repeat (first | apply Kd.R_alloc | apply Kd.R_drewN | apply Kd.R_drew)); exact HO158.out, by repeat (first | (with_reducible first | exact HB.out | apply below_alloc | apply pw_below_drewN | apply below_drew1 | refine below_set ?_ GE153.out | refine below_set ?_ GE154.out | refine below_set ?_ GE155.out) | exact HB.out)⟩

end Go.Proofs.YtfjmljgbdejghaaDoor.MHalfText
