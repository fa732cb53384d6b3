-- by a program of this session, for this claim
import Derived.Test.YtfjmljgbdejghaaDoorMNetsx0
import Derived.Test.YtfjmljgbdejghaaDoorMNetsx7
import Derived.Test.YtfjmljgbdejghaaDoorMNetsx9
namespace Go.Proofs.YtfjmljgbdejghaaDoor.MNets
open Go.RowKit Go.Proofs.YtfjmljgbdejghaaDoorW.PrintWords Go.Proofs.YtfjmljgbdejghaaDoorW.PrintLast Go.Proofs.YtfjmljgbdejghaaDoorW.PrintMore
attribute [local go_sem] max2_int min2_int max_two min_two max_three min_three max_four min_four   -- for this text's walks alone
set_option linter.unusedVariables false
set_option linter.unusedSimpArgs false

/-! ### spec_l02Sums: function 94 -/
def spec_l02Sums.l0 : Nat → List (S77) → Int → Vector Int 256 → Option (Vector Int 256)
  | 0, _, _, _ => none
  | k + 1, x0, x4, x281000 => if x4 < (x0.length : Int) then (if 0 ≤ x4 then (if 0 ≤ ((rd_T77 x0 x4).f0) then (if ((rd_T77 x0 x4).f0) < 16 then (if 0 ≤ ((rd_T77 x0 x4).f1) then (if ((rd_T77 x0 x4).f1) < 16 then (spec_l02Sums.l0 k x0 (wrap64 (x4 + 1)) (Arr.vst2 16 x281000 ((rd_T77 x0 x4).f0) ((rd_T77 x0 x4).f1) (wrap64 ((Arr.vrd2 16 x281000 ((rd_T77 x0 x4).f0) ((rd_T77 x0 x4).f1)) + ((rd_T77 x0 x4).f2))))) else (none)) else (none)) else (none)) else (none)) else (none)) else (some x281000)
def spec_l02Sums.f (k : Nat) (l0 : List (S77)) : Option (Vector Int 256) := spec_l02Sums.l0 k l0 0 (Vector.replicate 256 0 : Vector Int 256)
theorem spec_l02Sums.mono_l : ∀ k, (∀ y0 y1 y2, LeO (spec_l02Sums.l0 k y0 y1 y2) (spec_l02Sums.l0 (k + 1) y0 y1 y2))
  | 0 => fun _ _ _ r h => by simp [spec_l02Sums.l0] at h
  | k + 1 => by
    have ih0 := spec_l02Sums.mono_l k
    · intro y0 y1 y2
      unfold spec_l02Sums.l0
      repeat' first
      | (with_reducible exact ih0 _ _ _)
      | (with_reducible exact LeO.refl _)
      | (with_reducible exact LeO.none _)
      | (with_reducible refine LeO.ite ?_ ?_)
      | (with_reducible refine LeO.bind ?_ (fun _ => ?_))
      | exact ih0 _ _ _
      | exact LeO.none _
      | refine LeO.ite ?_ ?_
      | refine LeO.bind ?_ (fun _ => ?_)
theorem spec_l02Sums.mono : ∀ a0 k, LeO (spec_l02Sums.f k a0) (spec_l02Sums.f (k + 1) a0) := by
  intro a0 k; have ih0 := spec_l02Sums.mono_l k; unfold spec_l02Sums.f
  repeat' first
      | (with_reducible exact ih0 _ _ _)
      | (with_reducible exact LeO.refl _)
      | (with_reducible exact LeO.none _)
      | (with_reducible refine LeO.ite ?_ ?_)
      | (with_reducible refine LeO.bind ?_ (fun _ => ?_))
      | exact ih0 _ _ _
      | exact LeO.none _
      | refine LeO.ite ?_ ?_
      | refine LeO.bind ?_ (fun _ => ?_)
def spec_l02Sums.T5 : Bool × List (List Nat × List Nat) := (true, [([], []), ([], []), ([], []), ([1, 2], [1, 2]), ([3], [3]), ([4], [4]), ([], []), ([], []), ([6, 7], [6, 7]), ([8], [8]), ([9], [9]), ([0], [0]), ([11, 5], [5, 11]), ([12, 10], [10, 12]), ([13], [13]), ([], []), ([], []), ([15, 16], [15, 16]), ([17], [17]), ([18], [18]), ([14, 19], [14, 19]), ([0], [0]), ([21, 5], [5, 21]), ([22, 10, 0, 1, 2, 3, 4, 5, 6, 7, 8, 9, 10, 11, 12, 13, 14, 15, 16, 17, 18, 19, 20], [10, 22]), ([23, 20, 0, 1, 2, 3, 4, 5, 6, 7, 8, 9, 10, 11, 12, 13, 14, 15, 16, 17, 18, 19, 20], [20, 23])])
def spec_l02Sums.B5 : List Nat := [0, 0, 0, 6, 14, 30, 0, 0, 192, 448, 960, 1, 2111, 8191, 16383, 0, 0, 98304, 229376, 491520, 1048575, 1, 2097215, 8388607, 16777215]
theorem spec_l02Sums.tab5 : rtab .any (opsOf Tryd.f94 5) = spec_l02Sums.T5 := by kernel_rfl
theorem spec_l02Sums.bits5 : waitsOk spec_l02Sums.T5.2 spec_l02Sums.B5 = true := by kernel_rfl
set_option maxHeartbeats 8000000 in
set_option maxRecDepth 100000 in
theorem spec_l02Sums.calls (k : Nat) (A0 : Option Addr) (c0 : Nat) (l0 : List (S77)) (r : Vector Int 256) (w0 w : World) (hB : Below w0.heap.size w0 w) (hr0 : Kd.C k77 w0 A0 l0.length l0) (hc0 : l0.length ≤ c0) (h : spec_l02Sums.f k l0 = some r) :
    Calls Tryd.prog 94 #[.slice A0 l0.length c0] w fun e w' => ∃ g_ : Nat, e = .returned (.pointer (some ⟨g_, 0, none⟩)) ∧ IsS146 w0 w' g_ r ∧ Below w0.heap.size w0 w' ∧ Below w.heap.size w w' := by
  suffices core_ : ∀ (w : World) (hr0 : Kd.C k77 w A0 l0.length l0), Calls Tryd.prog 94 #[.slice A0 l0.length c0] w fun e w' => ∃ g_ : Nat, e = .returned (.pointer (some ⟨g_, 0, none⟩)) ∧ IsS146 w w' g_ r ∧ Below w.heap.size w w' by
    refine (core_ w (Kd.C_below hr0 hB)).mono ?_; rintro e w' ⟨g_, he_, hi_, hb_⟩; exact ⟨g_, he_, ⟨hi_.1, Nat.le_trans hB.size hi_.2⟩, below_step hB hb_, hb_⟩
  clear hB hr0; intro w hr0; have hB := Below.refl w.heap.size w; have hu146 := Tryd.underlying146; have HR0 := Aside0.mk hr0; have HC0 := Aside0.mk hc0; clear hr0 hc0; have HBW := Aside0.mk (Below.refl w.heap.size w); have HW0 := Aside0.mk hB.size; have HB := Aside0.mk hB; clear hB; have H : (spec_l02Sums.l0 k l0 0 (Vector.replicate 256 0 : Vector Int 256)) = some r := h; clear h; have H' := Aside0.mk H; clear H; go_enter Tryd.func94, Tryd.ntmps94; go_wp2_with (first | ((with_reducible refine gate_dst (N := 6) rfl ?_); refine box_event ?hg (N := 6) ?hd (cs := (⟨Arr.arL .i64 (Vector.replicate 256 0 : Vector Int 256)⟩ : Array Value)) (t := 146) ?hr ?_; (case hd => rfl); (case hg => rfl); (case hr => first | (go_simp; done) | (go_simp; rfl)); intro gb280 hg w2 hbox hb; have n0_ := Aside0.mk (below_step HB.out hb); have n1_ := Aside0.mk (below_step z0_ hb); have n2_ := Aside0.mk (hbox); have n3_ := Aside0.mk ((by rw [hg]; exact (below_size z0_) : w.heap.size ≤ gb280)); have n4_ := Aside0.mk ((Nat.le_trans HW0.out (by rw [hg]; exact (below_size z0_) : w.heap.size ≤ gb280) : w.heap.size ≤ gb280)); clear HBW; clear HB; have HBW := n0_; have HB := n1_; have BK280 := n2_; have GW280 := n3_; have GE280 := n4_; clear n0_ n1_ n2_ n3_ n4_; clear hb hbox hg)); go_loopg [4] k (fun kq v4 w' => ∃ (x4_1 : Int) (x281000_1 : Vector Int 256), v4 = .int .i64 x4_1 ∧ Aside0 (spec_l02Sums.l0 kq l0 x4_1 x281000_1 = some r) ∧ Aside0 (kq ≤ k) ∧ Aside0 (w'.heap[gb280]? = some (.cells (⟨Arr.arL .i64 x281000_1⟩ : Array Value) 146 (0, 0))) ∧ Aside0 (Below w.heap.size w w'))
  case atStart => exact ⟨(0), ((Vector.replicate 256 0 : Vector Int 256)), z5_, H', ⟨Nat.le_refl _⟩, ⟨z47_⟩, ⟨z51_⟩⟩
  case round =>
    clear H'; (try clear p2); obtain ⟨x4_1, x281000_1, rfl, HA, HK1, BK280, HB⟩ := hrel
    cases gk with
    | zero => exact absurd HA.out (by simp [spec_l02Sums.l0])
    | succ k1 =>
      have H := HA.out; clear HA; simp only [spec_l02Sums.l0] at H; by_cases c3 : x4_1 < (l0.length : Int)
      ·rw [if_pos c3] at H; have c3b0 : decide (x4_1 < (l0.length : Int)) = true := decide_eq_true c3; clear c3; by_cases c4 : 0 ≤ x4_1
       ·rw [if_pos c4] at H; have c4b0 : decide (0 ≤ x4_1) = true := decide_eq_true c4; clear c4; by_cases c5 : 0 ≤ ((rd_T77 l0 x4_1).f0)
        ·rw [if_pos c5] at H; have c5b0 : decide (0 ≤ ((rd_T77 l0 x4_1).f0)) = true := decide_eq_true c5; clear c5; by_cases c6 : ((rd_T77 l0 x4_1).f0) < 16
         ·rw [if_pos c6] at H; have c6b0 : decide (((rd_T77 l0 x4_1).f0) < 16) = true := decide_eq_true c6; clear c6; by_cases c8 : 0 ≤ ((rd_T77 l0 x4_1).f1)
          ·rw [if_pos c8] at H; have c8b0 : decide (0 ≤ ((rd_T77 l0 x4_1).f1)) = true := decide_eq_true c8; clear c8; by_cases c9 : ((rd_T77 l0 x4_1).f1) < 16
           ·rw [if_pos c9] at H; have c9b0 : decide (((rd_T77 l0 x4_1).f1) < 16) = true := decide_eq_true c9; clear c9; obtain ⟨y284, hy284⟩ : ∃ y_ : Vector Int 256, y_ = (Arr.vst2 16 x281000_1 ((rd_T77 l0 x4_1).f0) ((rd_T77 l0 x4_1).f1) (wrap64 ((Arr.vrd2 16 x281000_1 ((rd_T77 l0 x4_1).f0) ((rd_T77 l0 x4_1).f1)) + ((rd_T77 l0 x4_1).f2)))) := ⟨_, rfl⟩; (replace H : (spec_l02Sums.l0 k1 l0 (wrap64 (x4_1 + 1)) y284) = some r := by first | (rw [hy284]; with_reducible exact H) | (have H2_ := (Option.bind_some _ _).symm.trans H; rw [hy284]; with_reducible exact H2_) | (have H2_ := (Option.bind_some _ _).symm.trans H; with_reducible exact H2_) | with_reducible exact H | (rw [hy284]; exact H) | exact H); have Ny284 := Aside0.mk hy284; clear hy284; have H' := Aside0.mk H; clear H; (try go_wp2); have n0_ := Aside0.mk (blk_drew BK280.out); have n1_ := Aside0.mk (below_drew1 HB.out); clear BK280; clear HB; have BK280 := n0_; have HB := n1_; clear n0_ n1_; have p281 : 0 ≤ (x4_1 : Int) := of_decide_eq_true z2_; have q281 : x4_1 < (l0.length : Int) := of_decide_eq_true z2_; obtain ⟨ad281, e281, hx281_0, hx281_1, hx281_2⟩ := at_T77 HR0.out x4_1 p281 q281; have hw281_2 := hx281_2; have hw281_1 := hx281_1; have hw281_0 := hx281_0; cases e281; replace hx281_0 := pw_cell_below HB.out hx281_0; replace hx281_1 := pw_cell_below HB.out hx281_1; replace hx281_2 := pw_cell_below HB.out hx281_2; replace p281 := eq_true p281; replace q281 := eq_true q281; have p282 : 0 ≤ (x4_1 : Int) := of_decide_eq_true z2_; have q282 : x4_1 < (l0.length : Int) := of_decide_eq_true z2_; obtain ⟨ad282, e282, hx282_0, hx282_1, hx282_2⟩ := at_T77 HR0.out x4_1 p282 q282; have hw282_2 := hx282_2; have hw282_1 := hx282_1; have hw282_0 := hx282_0; obtain rfl : ad281 = ad282 := (by injection e282); replace hx282_0 := pw_cell_below HB.out hx282_0; replace hx282_1 := pw_cell_below HB.out hx282_1; replace hx282_2 := pw_cell_below HB.out hx282_2; replace p282 := eq_true p282; replace q282 := eq_true q282; have p7 : 0 ≤ (((rd_T77 l0 x4_1).f0) : Int) := of_decide_eq_true z2_; have q7 : (((rd_T77 l0 x4_1).f0) : Int) < 16 := of_decide_eq_true z2_; replace p7 := eq_true p7; replace q7 := eq_true q7; have p10 : 0 ≤ (((rd_T77 l0 x4_1).f1) : Int) := of_decide_eq_true z2_; have q10 : (((rd_T77 l0 x4_1).f1) : Int) < 16 := of_decide_eq_true z2_; replace p10 := eq_true p10; replace q10 := eq_true q10; have p283 : 0 ≤ (x4_1 : Int) := of_decide_eq_true z2_; have q283 : x4_1 < (l0.length : Int) := of_decide_eq_true z2_; obtain ⟨ad283, e283, hx283_0, hx283_1, hx283_2⟩ := at_T77 HR0.out x4_1 p283 q283; have hw283_2 := hx283_2; have hw283_1 := hx283_1; have hw283_0 := hx283_0; obtain rfl : ad281 = ad283 := (by injection e283); replace hx283_0 := pw_cell_below HB.out hx283_0; replace hx283_1 := pw_cell_below HB.out hx283_1; replace hx283_2 := pw_cell_below HB.out hx283_2; replace p283 := eq_true p283; replace q283 := eq_true q283; have p12 : 0 ≤ (((rd_T77 l0 x4_1).f0) : Int) := of_decide_eq_true z2_; have q12 : (((rd_T77 l0 x4_1).f0) : Int) < 16 := of_decide_eq_true z2_; replace p12 := eq_true p12; replace q12 := eq_true q12; have p13 : 0 ≤ (((rd_T77 l0 x4_1).f1) : Int) := of_decide_eq_true z2_; have q13 : (((rd_T77 l0 x4_1).f1) : Int) < 16 := of_decide_eq_true z2_; replace p13 := eq_true p13; replace q13 := eq_true q13; refine start_ (n := 25) (S := fun w' => w'.cell? (ad281.add ((x4_1).toNat * 3)) = some (.int .i64 ((rd_T77 l0 x4_1).f0)) ∧ w'.cell? ⟨(ad281.add ((x4_1).toNat * 3)).block, (ad281.add ((x4_1).toNat * 3)).off + 1, none⟩ = some (.int .i64 ((rd_T77 l0 x4_1).f1)) ∧ w'.cell? ⟨(ad281.add ((x4_1).toNat * 3)).block, (ad281.add ((x4_1).toNat * 3)).off + 2, none⟩ = some (.int .i64 ((rd_T77 l0 x4_1).f2)) ∧ w'.cell? (ad281.add ((x4_1).toNat * 3)) = some (.int .i64 ((rd_T77 l0 x4_1).f0)) ∧ w'.cell? ⟨(ad281.add ((x4_1).toNat * 3)).block, (ad281.add ((x4_1).toNat * 3)).off + 1, none⟩ = some (.int .i64 ((rd_T77 l0 x4_1).f1)) ∧ w'.cell? ⟨(ad281.add ((x4_1).toNat * 3)).block, (ad281.add ((x4_1).toNat * 3)).off + 2, none⟩ = some (.int .i64 ((rd_T77 l0 x4_1).f2)) ∧ w'.cell? ⟨gb280, ((rd_T77 l0 x4_1).f0).toNat * 16 + ((rd_T77 l0 x4_1).f1).toNat, none⟩ = some (.int .i64 (Arr.vrd2 16 x281000_1 ((rd_T77 l0 x4_1).f0) ((rd_T77 l0 x4_1).f1))) ∧ w'.cell? (ad281.add ((x4_1).toNat * 3)) = some (.int .i64 ((rd_T77 l0 x4_1).f0)) ∧ w'.cell? ⟨(ad281.add ((x4_1).toNat * 3)).block, (ad281.add ((x4_1).toNat * 3)).off + 1, none⟩ = some (.int .i64 ((rd_T77 l0 x4_1).f1)) ∧ w'.cell? ⟨(ad281.add ((x4_1).toNat * 3)).block, (ad281.add ((x4_1).toNat * 3)).off + 2, none⟩ = some (.int .i64 ((rd_T77 l0 x4_1).f2))) (ds := [24]) #[false, false, false, false, false, false, false, false, false, false, false, false, false, false, false, false, false, false, false, false, false, false, false, false, false] z4_ rfl rfl ⟨((HB.out.cell (World.block_lt_of_cell? _ _ hw281_0)).trans hw281_0), ((HB.out.cell (World.block_lt_of_cell? _ _ hw281_1)).trans hw281_1), ((HB.out.cell (World.block_lt_of_cell? _ _ hw281_2)).trans hw281_2), ((HB.out.cell (World.block_lt_of_cell? _ _ hw282_0)).trans hw282_0), ((HB.out.cell (World.block_lt_of_cell? _ _ hw282_1)).trans hw282_1), ((HB.out.cell (World.block_lt_of_cell? _ _ hw282_2)).trans hw282_2), (Arr.cellN (off := 0) (l := (Arr.arL .i64 x281000_1)) (BK280.out) rfl (((rd_T77 l0 x4_1).f0).toNat * 16 + ((rd_T77 l0 x4_1).f1).toNat) (((rd_T77 l0 x4_1).f0).toNat * 16 + ((rd_T77 l0 x4_1).f1).toNat) (by omega) (by have a0_ := of_eq_true p7; have b0_ := of_eq_true q7; have a1_ := of_eq_true p10; have b1_ := of_eq_true q10; omega)), ((HB.out.cell (World.block_lt_of_cell? _ _ hw283_0)).trans hw283_0), ((HB.out.cell (World.block_lt_of_cell? _ _ hw283_1)).trans hw283_1), ((HB.out.cell (World.block_lt_of_cell? _ _ hw283_2)).trans hw283_2)⟩ (fun hHeld => ?_); refine with_tabW spec_l02Sums.tab5 spec_l02Sums.bits5 (fun HT_ HW_ => ?_); generalize wr.drew = w15 at BK280 HB hx281_0 hx281_1 hx281_2 hx282_0 hx282_1 hx282_2 hx283_0 hx283_1 hx283_2 hHeld ⊢; refine pure_ (i := 0) (N := some 13) (v := ?_) (a' := ?_) #[true, false, false, false, false, false, false, false, false, false, false, false, false, false, false, false, false, false, false, false, false, false, false, false, false] rfl rfl (any_of HT_.out z4_) (fun _ _ _ h => h) (Or.inl ⟨by rfl, ?_⟩) ?_ ?_; rotate_left
            ·intro w'; go_simp; with_reducible rfl
            rotate_left
            ·simp only [Act.put, List.setIfInBounds_toArray, List.set_cons_zero, List.set_cons_succ, i64_w, i32_w]; rfl
            refine pure_ (i := 1) (N := some 14) (v := ?_) (a' := ?_) #[true, true, false, false, false, false, false, false, false, false, false, false, false, false, false, false, false, false, false, false, false, false, false, false, false] rfl rfl (any_of HT_.out z4_) (fun _ _ _ h => h) (Or.inl ⟨by rfl, ?_⟩) ?_ ?_; rotate_left
            ·intro w'; go_simp; with_reducible rfl
            rotate_left
            ·simp only [Act.put, List.setIfInBounds_toArray, List.set_cons_zero, List.set_cons_succ, i64_w, i32_w]; rfl
            refine pure_ (i := 2) (N := some 15) (v := ?_) (a' := ?_) #[true, true, true, false, false, false, false, false, false, false, false, false, false, false, false, false, false, false, false, false, false, false, false, false, false] rfl rfl (any_of HT_.out z4_) (fun _ _ _ h => h) (Or.inl ⟨by rfl, ?_⟩) ?_ ?_; rotate_left
            ·intro w'; go_simp; with_reducible rfl
            rotate_left
            ·simp only [Act.put, List.setIfInBounds_toArray, List.set_cons_zero, List.set_cons_succ, i64_w, i32_w]; rfl
            refine pure_ (i := 3) (N := some 16) (v := ?_) (a' := ?_) #[true, true, true, true, false, false, false, false, false, false, false, false, false, false, false, false, false, false, false, false, false, false, false, false, false] rfl rfl (any_of HT_.out z4_) (fun _ _ _ h => h) (Or.inl ⟨by rfl, ?_⟩) ?_ ?_; rotate_left
            ·intro w'; go_simp; with_reducible rfl
            rotate_left
            ·simp only [Act.put, List.setIfInBounds_toArray, List.set_cons_zero, List.set_cons_succ, i64_w, i32_w]; rfl
            refine pure_ (i := 4) (N := some 17) (v := ?_) (a' := ?_) #[true, true, true, true, true, false, false, false, false, false, false, false, false, false, false, false, false, false, false, false, false, false, false, false, false] rfl rfl (any_of HT_.out z4_) (fun _ _ _ h => h) (Or.inl ⟨by rfl, ?_⟩) ?_ ?_; rotate_left
            ·intro w'; go_simp; with_reducible rfl
            rotate_left
            ·simp only [Act.put, List.setIfInBounds_toArray, List.set_cons_zero, List.set_cons_succ, i64_w, i32_w]; rfl
            refine pure_ (i := 6) (N := some 19) (v := ?_) (a' := ?_) #[true, true, true, true, true, false, true, false, false, false, false, false, false, false, false, false, false, false, false, false, false, false, false, false, false] rfl rfl (any_of HT_.out z4_) (fun _ _ _ h => h) (Or.inl ⟨by rfl, ?_⟩) ?_ ?_; rotate_left
            ·intro w'; go_simp; with_reducible rfl
            rotate_left
            ·simp only [Act.put, List.setIfInBounds_toArray, List.set_cons_zero, List.set_cons_succ, i64_w, i32_w]; rfl
            refine pure_ (i := 7) (N := some 20) (v := ?_) (a' := ?_) #[true, true, true, true, true, false, true, true, false, false, false, false, false, false, false, false, false, false, false, false, false, false, false, false, false] rfl rfl (any_of HT_.out z4_) (fun _ _ _ h => h) (Or.inl ⟨by rfl, ?_⟩) ?_ ?_; rotate_left
            ·intro w'; go_simp; with_reducible rfl
            rotate_left
            ·simp only [Act.put, List.setIfInBounds_toArray, List.set_cons_zero, List.set_cons_succ, i64_w, i32_w]; rfl
            refine pure_ (i := 8) (N := some 21) (v := ?_) (a' := ?_) #[true, true, true, true, true, false, true, true, true, false, false, false, false, false, false, false, false, false, false, false, false, false, false, false, false] rfl rfl (any_of HT_.out z4_) (fun _ _ _ h => h) (Or.inl ⟨by rfl, ?_⟩) ?_ ?_; rotate_left
            ·intro w'; go_simp; with_reducible rfl
            rotate_left
            ·simp only [Act.put, List.setIfInBounds_toArray, List.set_cons_zero, List.set_cons_succ, i64_w, i32_w]; rfl
            refine pure_ (i := 9) (N := some 22) (v := ?_) (a' := ?_) #[true, true, true, true, true, false, true, true, true, true, false, false, false, false, false, false, false, false, false, false, false, false, false, false, false] rfl rfl (any_of HT_.out z4_) (fun _ _ _ h => h) (Or.inl ⟨by rfl, ?_⟩) ?_ ?_; rotate_left
            ·intro w'; go_simp; with_reducible rfl
            rotate_left
            ·simp only [Act.put, List.setIfInBounds_toArray, List.set_cons_zero, List.set_cons_succ, i64_w, i32_w]; rfl
            refine pure_ (i := 11) (N := some 24) (v := ?_) (a' := ?_) #[true, true, true, true, true, false, true, true, true, true, false, true, false, false, false, false, false, false, false, false, false, false, false, false, false] rfl rfl (any_of HT_.out z4_) (fun _ _ _ h => h) (Or.inl ⟨by rfl, ?_⟩) ?_ ?_; rotate_left
            ·intro w'; go_simp; with_reducible rfl
            rotate_left
            ·simp only [Act.put, List.setIfInBounds_toArray, List.set_cons_zero, List.set_cons_succ, i64_w, i32_w]; rfl
            refine pure_ (i := 15) (N := some 28) (v := ?_) (a' := ?_) #[true, true, true, true, true, false, true, true, true, true, false, true, false, false, false, true, false, false, false, false, false, false, false, false, false] rfl rfl (any_of HT_.out z4_) (fun _ _ _ h => h) (Or.inl ⟨by rfl, ?_⟩) ?_ ?_; rotate_left
            ·intro w'; go_simp; with_reducible rfl
            rotate_left
            ·simp only [Act.put, List.setIfInBounds_toArray, List.set_cons_zero, List.set_cons_succ, i64_w, i32_w]; rfl
            refine pure_ (i := 16) (N := some 29) (v := ?_) (a' := ?_) #[true, true, true, true, true, false, true, true, true, true, false, true, false, false, false, true, true, false, false, false, false, false, false, false, false] rfl rfl (any_of HT_.out z4_) (fun _ _ _ h => h) (Or.inl ⟨by rfl, ?_⟩) ?_ ?_; rotate_left
            ·intro w'; go_simp; with_reducible rfl
            rotate_left
            ·simp only [Act.put, List.setIfInBounds_toArray, List.set_cons_zero, List.set_cons_succ, i64_w, i32_w]; rfl
            refine pure_ (i := 17) (N := some 30) (v := ?_) (a' := ?_) #[true, true, true, true, true, false, true, true, true, true, false, true, false, false, false, true, true, true, false, false, false, false, false, false, false] rfl rfl (any_of HT_.out z4_) (fun _ _ _ h => h) (Or.inl ⟨by rfl, ?_⟩) ?_ ?_; rotate_left
            ·intro w'; go_simp; with_reducible rfl
            rotate_left
            ·simp only [Act.put, List.setIfInBounds_toArray, List.set_cons_zero, List.set_cons_succ, i64_w, i32_w]; rfl
            refine pure_ (i := 18) (N := some 31) (v := ?_) (a' := ?_) #[true, true, true, true, true, false, true, true, true, true, false, true, false, false, false, true, true, true, true, false, false, false, false, false, false] rfl rfl (any_of HT_.out z4_) (fun _ _ _ h => h) (Or.inl ⟨by rfl, ?_⟩) ?_ ?_; rotate_left
            ·intro w'; go_simp; with_reducible rfl
            rotate_left
            ·simp only [Act.put, List.setIfInBounds_toArray, List.set_cons_zero, List.set_cons_succ, i64_w, i32_w]; rfl
            refine pure_ (i := 21) (N := some 34) (v := ?_) (a' := ?_) #[true, true, true, true, true, false, true, true, true, true, false, true, false, false, false, true, true, true, true, false, false, true, false, false, false] rfl rfl (any_of HT_.out z4_) (fun _ _ _ h => h) (Or.inl ⟨by rfl, ?_⟩) ?_ ?_; rotate_left
            ·intro w'; go_simp; with_reducible rfl
            rotate_left
            ·simp only [Act.put, List.setIfInBounds_toArray, List.set_cons_zero, List.set_cons_succ, i64_w, i32_w]; rfl
            refine take_ (i := 5) (N := some 18) (v := ?_) (a' := ?_) #[true, true, true, true, true, true, true, true, true, true, false, true, false, false, false, true, true, true, true, false, false, true, false, false, false] rfl rfl (take_ofW HT_.out HW_.out z4_) (fun _ _ _ h => h) (Or.inl ⟨by rfl, ?_⟩) hHeld ?_ ?_; rotate_left
            ·rintro w' ⟨s0, s1, s2, s3, s4, s5, s6, s7, s8, s9⟩; go_simp; with_reducible rfl
            rotate_left
            ·simp only [Act.put, List.setIfInBounds_toArray, List.set_cons_zero, List.set_cons_succ, i64_w, i32_w]; rfl
            refine pure_ (i := 12) (N := some 25) (v := ?_) (a' := ?_) #[true, true, true, true, true, true, true, true, true, true, false, true, true, false, false, true, true, true, true, false, false, true, false, false, false] rfl rfl (any_of HT_.out z4_) (fun _ _ _ h => h) (Or.inl ⟨by rfl, ?_⟩) ?_ ?_; rotate_left
            ·intro w'; go_simp; with_reducible rfl
            rotate_left
            ·simp only [Act.put, List.setIfInBounds_toArray, List.set_cons_zero, List.set_cons_succ, i64_w, i32_w]; rfl
            refine pure_ (i := 22) (N := some 35) (v := ?_) (a' := ?_) #[true, true, true, true, true, true, true, true, true, true, false, true, true, false, false, true, true, true, true, false, false, true, true, false, false] rfl rfl (any_of HT_.out z4_) (fun _ _ _ h => h) (Or.inl ⟨by rfl, ?_⟩) ?_ ?_; rotate_left
            ·intro w'; go_simp; with_reducible rfl
            rotate_left
            ·simp only [Act.put, List.setIfInBounds_toArray, List.set_cons_zero, List.set_cons_succ, i64_w, i32_w]; rfl
            refine take_ (i := 10) (N := some 23) (v := ?_) (a' := ?_) #[true, true, true, true, true, true, true, true, true, true, true, true, true, false, false, true, true, true, true, false, false, true, true, false, false] rfl rfl (take_ofW HT_.out HW_.out z4_) (fun _ _ _ h => h) (Or.inl ⟨by rfl, ?_⟩) hHeld ?_ ?_; rotate_left
            ·rintro w' ⟨s0, s1, s2, s3, s4, s5, s6, s7, s8, s9⟩; go_simp; with_reducible rfl
            rotate_left
            ·simp only [Act.put, List.setIfInBounds_toArray, List.set_cons_zero, List.set_cons_succ, i64_w, i32_w]; rfl
            refine pure_ (i := 13) (N := some 26) (v := ?_) (a' := ?_) #[true, true, true, true, true, true, true, true, true, true, true, true, true, true, false, true, true, true, true, false, false, true, true, false, false] rfl rfl (any_of HT_.out z4_) (fun _ _ _ h => h) (Or.inl ⟨by rfl, ?_⟩) ?_ ?_; rotate_left
            ·intro w'; go_simp; with_reducible rfl
            rotate_left
            ·simp only [Act.put, List.setIfInBounds_toArray, List.set_cons_zero, List.set_cons_succ, i64_w, i32_w]; rfl
            refine take_ (i := 14) (N := some 27) (v := ?_) (a' := ?_) #[true, true, true, true, true, true, true, true, true, true, true, true, true, true, true, true, true, true, true, false, false, true, true, false, false] rfl rfl (take_ofW HT_.out HW_.out z4_) (fun _ _ _ h => h) (Or.inl ⟨by rfl, ?_⟩) hHeld ?_ ?_; rotate_left
            ·rintro w' ⟨s0, s1, s2, s3, s4, s5, s6, s7, s8, s9⟩; go_simp; with_reducible rfl
            rotate_left
            ·simp only [Act.put, List.setIfInBounds_toArray, List.set_cons_zero, List.set_cons_succ, i64_w, i32_w]; rfl
            refine take_ (i := 19) (N := some 32) (v := ?_) (a' := ?_) #[true, true, true, true, true, true, true, true, true, true, true, true, true, true, true, true, true, true, true, true, false, true, true, false, false] rfl rfl (take_ofW HT_.out HW_.out z4_) (fun _ _ _ h => h) (Or.inl ⟨by rfl, ?_⟩) hHeld ?_ ?_; rotate_left
            ·rintro w' ⟨s0, s1, s2, s3, s4, s5, s6, s7, s8, s9⟩; go_simp; with_reducible rfl
            rotate_left
            ·simp only [Act.put, List.setIfInBounds_toArray, List.set_cons_zero, List.set_cons_succ, i64_w, i32_w]; rfl
            refine pure_ (i := 20) (N := some 33) (v := ?_) (a' := ?_) #[true, true, true, true, true, true, true, true, true, true, true, true, true, true, true, true, true, true, true, true, true, true, true, false, false] rfl rfl (any_of HT_.out z4_) (fun _ _ _ h => h) (Or.inl ⟨by rfl, ?_⟩) ?_ ?_; rotate_left
            ·intro w'; go_simp; with_reducible rfl
            rotate_left
            ·simp only [Act.put, List.setIfInBounds_toArray, List.set_cons_zero, List.set_cons_succ, i64_w, i32_w]; rfl
            refine pure_ (i := 23) (N := some 36) (v := ?_) (a' := ?_) #[true, true, true, true, true, true, true, true, true, true, true, true, true, true, true, true, true, true, true, true, true, true, true, true, false] rfl rfl (any_of HT_.out z4_) (fun _ _ _ h => h) (Or.inl ⟨by rfl, ?_⟩) ?_ ?_; rotate_left
            ·intro w'; go_simp; with_reducible rfl
            rotate_left
            ·simp only [Act.put, List.setIfInBounds_toArray, List.set_cons_zero, List.set_cons_succ, i64_w, i32_w]; rfl
            refine last_ (i := 24) (N := none) #[true, true, true, true, true, true, true, true, true, true, true, true, true, true, true, true, true, true, true, true, true, true, true, true, true] rfl rfl (one_of HT_.out z4_) (by decide) (fun K hK => ?_); have hx14 : w15.cell? ⟨gb280, ((rd_T77 l0 x4_1).f0).toNat * 16 + ((rd_T77 l0 x4_1).f1).toNat, none⟩ = some (.int .i64 (Arr.vrd2 16 x281000_1 ((rd_T77 l0 x4_1).f0) ((rd_T77 l0 x4_1).f1))) := Arr.cellN (off := 0) (l := (Arr.arL .i64 x281000_1)) (show w15.heap[gb280]? = some (.cells (⟨Arr.arL .i64 x281000_1⟩ : Array Value) 146 (0, 0)) from z47_) rfl (((rd_T77 l0 x4_1).f0).toNat * 16 + ((rd_T77 l0 x4_1).f1).toNat) (((rd_T77 l0 x4_1).f0).toNat * 16 + ((rd_T77 l0 x4_1).f1).toNat) (by omega) (by have a0_ := of_eq_true p12; have b0_ := of_eq_true q12; have a1_ := of_eq_true p13; have b1_ := of_eq_true q13; omega); have hf14 := blk_frozen (show w15.heap[gb280]? = some (.cells (⟨Arr.arL .i64 x281000_1⟩ : Array Value) 146 (0, 0)) from z47_) (((rd_T77 l0 x4_1).f0).toNat * 16 + ((rd_T77 l0 x4_1).f1).toNat); refine skip_ (w1 := w15.setCell ⟨gb280, ((rd_T77 l0 x4_1).f0).toNat * 16 + ((rd_T77 l0 x4_1).f1).toNat, none⟩ (.int .i64 (wrap64 ((Arr.vrd2 16 x281000_1 ((rd_T77 l0 x4_1).f0) ((rd_T77 l0 x4_1).f1)) + ((rd_T77 l0 x4_1).f2))))) (by rfl) rfl ?_ ?_
            ·first | (go_simp; done) | (go_simp; rfl)
            refine hK.out _ _ ?_; clear hK K; refine done_ (done_of HT_.out z4_) ?_; obtain ⟨w16, hw_, hbx, hg, hbe⟩ := Arr.stored_at (g := gb280) (off := 0) (m := ((rd_T77 l0 x4_1).f0).toNat * 16 + ((rd_T77 l0 x4_1).f1).toNat) (n := ((rd_T77 l0 x4_1).f0).toNat * 16 + ((rd_T77 l0 x4_1).f1).toNat) (k := .i64) (y := (wrap64 ((Arr.vrd2 16 x281000_1 ((rd_T77 l0 x4_1).f0) ((rd_T77 l0 x4_1).f1)) + ((rd_T77 l0 x4_1).f2)))) (x := x281000_1) (t := 146) (pre := []) (show w15.heap[gb280]? = some (.cells (⟨Arr.arL .i64 x281000_1⟩ : Array Value) 146 (0, 0)) from z47_) rfl (by omega); rw [hw_]; clear hw_; replace hbx : w16.heap[gb280]? = some (.cells (⟨Arr.arL .i64 y284⟩ : Array Value) 146 (0, 0)) := (by rw [Ny284.out]; exact hbx); have n0_ := Aside0.mk (hbx); have n1_ := Aside0.mk (hbe _ _ HB.out GW280.out); have n2_ := Aside0.mk (hbe _ _ z51_ GE280.out); clear BK280; clear HBW; clear HB; have BK280 := n0_; have HBW := n1_; have HB := n2_; clear n0_ n1_ n2_; (try clear hbx hg hbe); (try go_wp2); go_roundg k1
            case measure => have := HK1.out; omega
            case rel => exact ⟨(wrap64 (x4_1 + 1)), (y284), z5_, H', ⟨z62_⟩, ⟨z47_⟩, ⟨z51_⟩⟩
           ·rw [if_neg c9] at H; exact absurd H (by simp)
          ·rw [if_neg c8] at H; exact absurd H (by simp)
         ·rw [if_neg c6] at H; exact absurd H (by simp)
        ·rw [if_neg c5] at H; exact absurd H (by simp)
       ·rw [if_neg c4] at H; exact absurd H (by simp)
      ·rw [if_neg c3] at H; have c3b0 : decide (x4_1 < (l0.length : Int)) = false := decide_eq_false c3; clear c3; obtain rfl := Option.some.inj H; go_wp2; go_ret; exact ⟨_, rfl, (show IsS146 w _ gb280 x281000_1 from ⟨z47_, GE280.out⟩), z51_⟩

/-! ### spec_JoinDebts: function 43 -/
def spec_JoinDebts.f (k : Nat) (a0 : Int) (l1 : List (S77)) : Option ((List (S77)) × Int) := (spec_l02Ok.f k a0 l1).bind fun t285 => (if t285 = true then ((spec_l02Sums.f k l1).bind fun t286 => ((spec_l02List.f k t286).bind fun bt288 => (some (bt288.1, bt288.2.1)))) else (some ((([] : List (S77))), 1)))
theorem spec_JoinDebts.mono : ∀ a0 a1 k, LeO (spec_JoinDebts.f k a0 a1) (spec_JoinDebts.f (k + 1) a0 a1) := by
  intro a0 a1 k; unfold spec_JoinDebts.f
  repeat' first
      | (with_reducible exact spec_l02List.mono _ _)
      | (with_reducible exact spec_l02Ok.mono _ _ _)
      | (with_reducible exact spec_l02Sums.mono _ _)
      | (with_reducible exact LeO.refl _)
      | (with_reducible exact LeO.none _)
      | (with_reducible refine LeO.ite ?_ ?_)
      | (with_reducible refine LeO.bind ?_ (fun _ => ?_))
      | exact spec_l02List.mono _ _
      | exact spec_l02Ok.mono _ _ _
      | exact spec_l02Sums.mono _ _
      | exact LeO.none _
      | refine LeO.ite ?_ ?_
      | refine LeO.bind ?_ (fun _ => ?_)
set_option maxHeartbeats 8000000 in
set_option maxRecDepth 100000 in
theorem spec_JoinDebts.calls (k : Nat) (a0 : Int) (A1 : Option Addr) (c1 : Nat) (l1 : List (S77)) (r1 : List (S77)) (r2 : Int) (w : World) (hr1 : Kd.C k77 w A1 l1.length l1) (hc1 : l1.length ≤ c1) (h : spec_JoinDebts.f k a0 l1 = some (r1, r2)) :
    Calls Tryd.prog 43 #[.int .i64 a0, .slice A1 l1.length c1] w fun e w' => ∃ v0_ : Value, e = .returned (.tuple #[v0_, .int .i64 r2]) ∧ Kd.R k77 77 w' w.heap.size (fun _ => True) v0_ r1 ∧ Below w.heap.size w w' := by
  have HR1 := Aside0.mk hr1; have HC1 := Aside0.mk hc1; clear hr1 hc1; have HB := Aside0.mk (Below.refl w.heap.size w); have H : ((spec_l02Ok.f k a0 l1).bind fun t285 => (if t285 = true then ((spec_l02Sums.f k l1).bind fun t286 => ((spec_l02List.f k t286).bind fun bt288 => (some (bt288.1, bt288.2.1)))) else (some ((([] : List (S77))), 1)))) = some (r1, r2) := h; clear h; replace H := Option.bind_eq_some_iff.mp H; obtain ⟨t285, A30, H⟩ := H; replace H : (if t285 = true then ((spec_l02Sums.f k l1).bind fun t286 => ((spec_l02List.f k t286).bind fun bt288 => (some (bt288.1, bt288.2.1)))) else (some ((([] : List (S77))), 1))) = some (r1, r2) := H; have A3 := Aside0.mk A30; clear A30; by_cases c4 : t285 = true
  ·subst c4; (have H1 : ((spec_l02Sums.f k l1).bind fun t286 => ((spec_l02List.f k t286).bind fun bt288 => (some (bt288.1, bt288.2.1)))) = some (r1, r2) := z39_); clear H; have H := H1; clear H1; replace H := Option.bind_eq_some_iff.mp H; obtain ⟨t286, A50, H⟩ := H; replace H : ((spec_l02List.f k t286).bind fun bt288 => (some (bt288.1, bt288.2.1))) = some (r1, r2) := H; have A5 := Aside0.mk A50; clear A50; replace H := Option.bind_eq_some_iff.mp H; obtain ⟨⟨t288, t291, t292⟩, A60, H⟩ := H; replace H : (some (t288, t291)) = some (r1, r2) := H; have A6 := Aside0.mk A60; clear A60; simp only [Option.some.injEq, Prod.mk.injEq] at H; obtain ⟨rfl, rfl⟩ := H; go_enter Tryd.func43, Tryd.ntmps43; go_wp2_with (first | ((with_reducible refine gate_callee (f := 58) rfl ?_); refine goesL_ (some 8) rfl rfl Tryd.func58 z4_ rfl #[.int .i64 a0, .slice A1 l1.length c1] rfl z1_ ?_; (with_reducible refine (spec_l02Ok.calls k a0 _ _ l1 true _ ?side1 ?side2 A3.out).mono ?_); (case side1 => repeat (first | exact HR1.out | (with_reducible refine Kd.C_alloc ?_ _) | (with_reducible refine Kd.C_drewN ?_ _) | (with_reducible refine Kd.C_drew ?_))); (case side2 => exact HC1.out); rintro e w7 ⟨rfl, hb⟩; refine ⟨_, rfl, ?_⟩; have n0_ := Aside0.mk (below_step z0_ hb); clear HB; have HB := n0_; clear n0_; (try clear hb); (try clear hb2); (try clear hk); (try clear hi)) | ((with_reducible refine gate_callee (f := 94) rfl ?_); refine goesL_ (some 12) rfl rfl Tryd.func94 z4_ rfl #[.slice A1 l1.length c1] rfl z1_ ?_; (with_reducible refine (spec_l02Sums.calls k _ _ l1 t286 w _ ?side1 ?side2 ?side3 A5.out).mono ?_); (case side1 => repeat (first | (with_reducible first | exact HB.out | apply below_alloc | apply pw_below_drewN | apply below_drew1) | exact HB.out)); (case side2 => exact HR1.out); (case side3 => exact HC1.out); rintro e w8 ⟨g287, rfl, hi, hb, hb2⟩; refine ⟨_, rfl, ?_⟩; have n0_ := Aside0.mk (hb); have n1_ := Aside0.mk (hi); clear HB; have HB := n0_; have HI287 := n1_; clear n0_ n1_; (try clear hb); (try clear hb2); (try clear hk); (try clear hi)) | ((with_reducible refine gate_callee (f := 93) rfl ?_); refine goesL_ (some 13) rfl rfl Tryd.func93 z4_ rfl #[.pointer (some ⟨g287, 0, none⟩)] rfl z1_ ?_; (with_reducible refine (spec_l02List.calls k g287 t286 t288 t291 t292 w _ ?side1 ?side2 A6.out).mono ?_); (case side1 => repeat (first | (with_reducible first | exact HI287.out | apply IsS146.alloc | apply IsS146.drewN | apply IsS146.drew | apply IsS146.set_0) | exact HI287.out)); (case side2 => repeat (first | (with_reducible first | exact HB.out | apply below_alloc | apply pw_below_drewN | apply below_drew1 | refine below_set ?_ (IsS146.ge HI287.out)) | exact HB.out)); rintro e w9 ⟨v289, rfl, ho0, hi, hb, hk⟩; refine ⟨_, rfl, ?_⟩; have n0_ := Aside0.mk (Kd.R_lower ho0 (below_size (by repeat (first | (with_reducible first | exact HB.out | apply below_alloc | apply pw_below_drewN | apply below_drew1 | refine below_set ?_ (IsS146.ge HI287.out)) | exact HB.out)))); have n1_ := Aside0.mk (hb); have n2_ := Aside0.mk (hi); clear HB; clear HI287; have HO290 := n0_; have HB := n1_; have HI287 := n2_; clear n0_ n1_ n2_; (try clear hb); (try clear hb2); (try clear hk); (try clear hi); (try clear ho0))); go_ret2; exact ⟨_, z3_, by (with_reducible repeat (first | apply Kd.R_alloc | apply Kd.R_drewN | apply Kd.R_drew)); exact HO290.out, by repeat (first | (with_reducible first | exact HB.out | apply below_alloc | apply pw_below_drewN | apply below_drew1 | refine below_set ?_ (IsS146.ge HI287.out)) | exact HB.out)⟩
  ·replace c4 := Bool.eq_false_iff.mpr c4; subst c4; (have H1 : (some ((([] : List (S77))), 1)) = some (r1, r2) := z17_); clear H; have H := H1; clear H1; obtain ⟨y293, hy293⟩ : ∃ y_ : List (S77), y_ = (([] : List (S77))) := ⟨_, rfl⟩; (replace H : (some (y293, 1)) = some (r1, r2) := by first | (rw [hy293]; with_reducible exact H) | (have H2_ := (Option.bind_some _ _).symm.trans H; rw [hy293]; with_reducible exact H2_) | (have H2_ := (Option.bind_some _ _).symm.trans H; with_reducible exact H2_) | with_reducible exact H | (rw [hy293]; exact H) | exact H); have Ny293 := Aside0.mk hy293; clear hy293; simp only [Option.some.injEq, Prod.mk.injEq] at H; obtain ⟨rfl, rfl⟩ := H; go_enter Tryd.func43, Tryd.ntmps43; go_wp2_with (first | ((with_reducible refine gate_callee (f := 58) rfl ?_); refine goesL_ (some 8) rfl rfl Tryd.func58 z4_ rfl #[.int .i64 a0, .slice A1 l1.length c1] rfl z1_ ?_; (with_reducible refine (spec_l02Ok.calls k a0 _ _ l1 false _ ?side1 ?side2 A3.out).mono ?_); (case side1 => repeat (first | exact HR1.out | (with_reducible refine Kd.C_alloc ?_ _) | (with_reducible refine Kd.C_drewN ?_ _) | (with_reducible refine Kd.C_drew ?_))); (case side2 => exact HC1.out); rintro e w10 ⟨rfl, hb⟩; refine ⟨_, rfl, ?_⟩; have n0_ := Aside0.mk (below_step z0_ hb); clear HB; have HB := n0_; clear n0_; (try clear hb); (try clear hb2); (try clear hk); (try clear hi)) | ((with_reducible refine gate_dst (N := 10) rfl ?_); refine Kd.R_lit k77 _ 77 ?hg (N := 10) ?hd (xs := ([] : List (S77))) (inner := []) (ok := fun _ => True) (okp := fun _ => True) ?hr ?hp (fun _ hk => hk) trivial (Below.refl _ _) (Nat.le_refl _) (by simp) ?_; (case hd => rfl); (case hg => rfl); (case hr => first | (go_simp; done) | (go_simp; rfl)); (case hp => exact (Reps.none _ _)); intro v294 w11 ho12 hb hg_ hnew_; clear hg_ hnew_; (first | rw [← Ny293.out] at ho12 | (simp only [Int.reduceToNat] at ho12; rw [← Ny293.out] at ho12)); have n0_ := Aside0.mk (Kd.R_lower ho12 (below_size z0_)); have n1_ := Aside0.mk (below_step z0_ hb); clear HB; have HO295 := n0_; have HB := n1_; clear n0_ n1_; clear hb ho12)); go_ret2; exact ⟨_, z3_, by (with_reducible repeat (first | apply Kd.R_alloc | apply Kd.R_drewN | apply Kd.R_drew)); exact HO295.out, z0_⟩

end Go.Proofs.YtfjmljgbdejghaaDoor.MNets
