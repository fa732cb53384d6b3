-- by a program of this session, for this claim
import Derived.Test.YtcblnnfodpglaaaGreatDoorMNotchedx0
import Derived.Test.YtcblnnfodpglaaaGreatDoorMNotchedx2
namespace Go.Proofs.YtcblnnfodpglaaaGreatDoor.MNotched
open Go.RowKit Go.Proofs.YtcblnnfodpglaaaGreatDoorW.PrintWords Go.Proofs.YtcblnnfodpglaaaGreatDoorW.PrintLast Go.Proofs.YtcblnnfodpglaaaGreatDoorW.PrintMore
attribute [local go_sem] max2_int min2_int max_two min_two max_three min_three max_four min_four   -- for this text's walks alone
set_option linter.unusedVariables false
set_option linter.unusedSimpArgs false

/-! ### spec_l01Notches: function 32 -/
mutual
def spec_l01Notches.l0 : Nat → List (S60) → Int → Option (Bool)
  | 0, _, _ => none
  | k + 1, x0, x3 => if x3 < (x0.length : Int) then (if 0 ≤ x3 then ((spec_l01Kind.f (wrap64 ((rd_T60 x0 x3).f0))).bind fun t122 => (if t122 = true then (if ((rd_T60 x0 x3).f1) < 0 then (spec_l01Notches.j1 k x0 x3 true ((rd_T60 x0 x3).f0) ((rd_T60 x0 x3).f1)) else ((spec_l01Ends.f ((rd_T60 x0 x3).f0) ((rd_T60 x0 x3).f1)).bind fun t123 => (spec_l01Notches.j1 k x0 x3 (decide (t123 > 200)) ((rd_T60 x0 x3).f0) ((rd_T60 x0 x3).f1)))) else (spec_l01Notches.j1 k x0 x3 true ((rd_T60 x0 x3).f0) ((rd_T60 x0 x3).f1)))) else (none)) else (some true)
def spec_l01Notches.j1 : Nat → List (S60) → Int → Bool → Int → Int → Option (Bool)
  | 0, _, _, _, _, _ => none
  | k + 1, x0, x3, x32, x122000, x122001 => if x32 = true then (some false) else (if x3 > 0 then (if 0 ≤ (wrap64 (x3 - 1)) then (if (wrap64 (x3 - 1)) < (x0.length : Int) then (if x122000 > ((rd_T60 x0 (wrap64 (x3 - 1))).f0) then (some false) else ((spec_l01Ends.f ((rd_T60 x0 (wrap64 (x3 - 1))).f0) ((rd_T60 x0 (wrap64 (x3 - 1))).f1)).bind fun t126 => (if (wrap64 (x122001)) ≤ t126 then (some false) else (spec_l01Notches.l0 k x0 (wrap64 (x3 + 1)))))) else (none)) else (none)) else (spec_l01Notches.l0 k x0 (wrap64 (x3 + 1))))
end
def spec_l01Notches.f (k : Nat) (l0 : List (S60)) : Option (Bool) := if (l0.length : Int) > 60 then (some false) else (spec_l01Notches.l0 k l0 0)
theorem spec_l01Notches.mono_l : ∀ k, (∀ y0 y1, LeO (spec_l01Notches.l0 k y0 y1) (spec_l01Notches.l0 (k + 1) y0 y1)) ∧ (∀ y0 y1 y2 y3 y4, LeO (spec_l01Notches.j1 k y0 y1 y2 y3 y4) (spec_l01Notches.j1 (k + 1) y0 y1 y2 y3 y4))
  | 0 => ⟨fun _ _ r h => by simp [spec_l01Notches.l0] at h, fun _ _ _ _ _ r h => by simp [spec_l01Notches.j1] at h⟩
  | k + 1 => by
    obtain ⟨ih0, ih1⟩ := spec_l01Notches.mono_l k
    refine ⟨?_, ?_⟩
    · intro y0 y1
      unfold spec_l01Notches.l0
      with_reducible repeat' first | exact ih0 _ _ | exact ih1 _ _ _ _ _ | exact LeO.refl _ | exact LeO.none _ | refine LeO.ite ?_ ?_ | refine LeO.bind ?_ (fun _ => ?_)
    · intro y0 y1 y2 y3 y4
      unfold spec_l01Notches.j1
      with_reducible repeat' first | exact ih0 _ _ | exact ih1 _ _ _ _ _ | exact LeO.refl _ | exact LeO.none _ | refine LeO.ite ?_ ?_ | refine LeO.bind ?_ (fun _ => ?_)
theorem spec_l01Notches.mono : ∀ a0 k, LeO (spec_l01Notches.f k a0) (spec_l01Notches.f (k + 1) a0) := by
  intro a0 k; obtain ⟨ih0, ih1⟩ := spec_l01Notches.mono_l k; unfold spec_l01Notches.f
  with_reducible repeat' first | exact ih0 _ _ | exact ih1 _ _ _ _ _ | exact LeO.refl _ | exact LeO.none _ | refine LeO.ite ?_ ?_ | refine LeO.bind ?_ (fun _ => ?_)
def spec_l01Notches.T9 : Bool × List (List Nat × List Nat) := (true, [([], []), ([0], [0]), ([1], [1]), ([2], [2]), ([3, 2], [2, 3]), ([2], [2]), ([2], [2]), ([6, 2], [2, 6]), ([5, 7, 2], [2, 5, 7]), ([8, 2], [2, 8]), ([9, 2], [2, 9]), ([4, 10, 2], [2, 4, 10]), ([11, 2, 2], [2, 11]), ([12], [12]), ([13, 12], [12, 13]), ([14, 12], [12, 14]), ([12], [12]), ([12], [12]), ([17, 12], [12, 17]), ([16, 18, 12], [12, 16, 18]), ([19, 12], [12, 19]), ([20, 12, 12], [12, 20]), ([15, 21, 12], [12, 15, 21]), ([12, 22, 2], [2, 12, 22]), ([2, 23], [2, 23])])
def spec_l01Notches.B9 : List Nat := [0, 1, 3, 7, 15, 7, 7, 71, 231, 487, 999, 2047, 4095, 8191, 16383, 32767, 8191, 8191, 139263, 466943, 991231, 2039807, 4194303, 8388607, 16777215]
theorem spec_l01Notches.tab9 : rtab .any (opsOf Tryz.f32 9) = spec_l01Notches.T9 := by kernel_rfl
theorem spec_l01Notches.bits9 : waitsOk spec_l01Notches.T9.2 spec_l01Notches.B9 = true := by kernel_rfl
set_option maxHeartbeats 8000000 in
set_option maxRecDepth 100000 in
theorem spec_l01Notches.calls (k : Nat) (A0 : Option Addr) (c0 : Nat) (l0 : List (S60)) (r : Bool) (w : World) (hr0 : Kd.C k60 w A0 l0.length l0) (hc0 : l0.length ≤ c0) (h : spec_l01Notches.f k l0 = some r) :
    Calls Tryz.prog 32 #[.slice A0 l0.length c0] w fun e w' => e = .returned (.bool r) ∧ Below w.heap.size w w' := by
  have hu60 := Tryz.underlying60; have HR0 := Aside0.mk hr0; have HC0 := Aside0.mk hc0; clear hr0 hc0; have HB := Aside0.mk (Below.refl w.heap.size w); have H : (if (l0.length : Int) > 60 then (some false) else (spec_l01Notches.l0 k l0 0)) = some r := h; clear h; by_cases c2 : (l0.length : Int) > 60
  ·rw [if_pos c2] at H; have c2b0 : decide (60 < (l0.length : Int)) = true := decide_eq_true c2; have c2b1 : decide (60 < l0.length) = true := decide_eq_true (by omega); clear c2; obtain rfl := Option.some.inj H; go_enter Tryz.func32, Tryz.ntmps32; go_wp2; go_ret; exact ⟨z6_, z0_⟩
  ·rw [if_neg c2] at H; have c2b0 : decide (60 < (l0.length : Int)) = false := decide_eq_false c2; have c2b1 : decide (60 < l0.length) = false := decide_eq_false (by omega); clear c2; have H' := Aside0.mk H; clear H; go_enter Tryz.func32, Tryz.ntmps32; go_wp2; go_loopg [3] k (fun kq v3 w' => ∃ (x3_1 : Int), v3 = .int .i64 x3_1 ∧ Aside0 (spec_l01Notches.l0 kq l0 x3_1 = some r) ∧ Aside0 (kq ≤ k) ∧ Aside0 (Below w.heap.size w w'))
   case atStart => exact ⟨(0), z9_, H', ⟨Nat.le_refl _⟩, ⟨z0_⟩⟩
   case round =>
     clear H'; (try clear c2); (try clear c2b0); (try clear c2b1); (try clear p2); obtain ⟨x3_1, rfl, HA, HK1, HB⟩ := hrel
     cases gk with
     | zero => exact absurd HA.out (by simp [spec_l01Notches.l0])
     | succ k1 =>
       have H := HA.out; clear HA; simp only [spec_l01Notches.l0] at H; by_cases c3 : x3_1 < (l0.length : Int)
       ·rw [if_pos c3] at H; have c3b0 : decide (x3_1 < (l0.length : Int)) = true := decide_eq_true c3; clear c3; by_cases c4 : 0 ≤ x3_1
        ·rw [if_pos c4] at H; have c4b0 : decide (0 ≤ x3_1) = true := decide_eq_true c4; clear c4; have HC5 := Aside0.mk H; clear H; have p120 : 0 ≤ (x3_1 : Int) := of_decide_eq_true z2_; have q120 : x3_1 < (l0.length : Int) := of_decide_eq_true z2_; obtain ⟨ad120, e120, hx120_0, hx120_1⟩ := at_T60 HR0.out x3_1 p120 q120; cases e120; (try replace hx120_0 := (HB.out.cell (World.block_lt_of_cell? w _ hx120_0)).trans hx120_0); (try replace hx120_1 := (HB.out.cell (World.block_lt_of_cell? w _ hx120_1)).trans hx120_1); replace p120 := eq_true p120; replace q120 := eq_true q120; go_upto_region 7 with (first | ((with_reducible refine gate_dst (N := 4) rfl ?_); refine box_event ?hg (N := 4) ?hd (cs := #[.int .i8 0, .int .i16 0]) (t := 60) ?hr ?_; (case hd => rfl); (case hg => rfl); (case hr => first | (go_simp; done) | (go_simp; rfl)); intro gb121 hg w6 hbox hb; have BK121 := Aside0.mk (hbox); have GW121 := ns_ z0_ hg; have GE121 := ns_ z0_ hg; replace HB := Aside0.mk (below_step z0_ hb); clear hb hbox hg; have hcz7_0 : w6.cell? ⟨gb121, 0, none⟩ = some (.int .i8 0) := (blk_cell BK121.out 0).trans rfl; have hcz7_1 : w6.cell? ⟨gb121, 1, none⟩ = some (.int .i16 0) := (blk_cell BK121.out 1).trans rfl; have hfz7_0 := blk_frozen BK121.out 0; have hfz7_1 := blk_frozen BK121.out 1)); (try simp only [Act.put, List.setIfInBounds_toArray, List.set_cons_zero, List.set_cons_succ]); go_cut [32] (fun v32 wc => ∃ (kq : Nat) (x32_4 : Bool), v32 = .bool x32_4 ∧ Aside0 (spec_l01Notches.j1 kq l0 x3_1 x32_4 ((rd_T60 l0 x3_1).f0) ((rd_T60 l0 x3_1).f1) = some r) ∧ Aside0 (kq ≤ k1) ∧ Aside0 (wc.heap[gb121]? = some (.cells #[.int .i8 ((rd_T60 l0 x3_1).f0), .int .i16 ((rd_T60 l0 x3_1).f1)] 60 (0, 0))) ∧ Aside0 (Below w.heap.size w wc))
         case first =>
           have H := HC5.out; clear HC5; replace H := Option.bind_eq_some_iff.mp H; obtain ⟨t122, A80, H⟩ := H;  have A8 := Aside0.mk A80; clear A80; by_cases c9 : t122 = true
           ·subst c9; rw [if_pos rfl] at H; by_cases c10 : ((rd_T60 l0 x3_1).f1) < 0
            ·rw [if_pos c10] at H; have c10b0 : decide (((rd_T60 l0 x3_1).f1) < 0) = true := decide_eq_true c10; clear c10; (first | rw [c10b0] | (simp only [i64_w, i32_w]; rw [c10b0]) | skip); have H' := Aside0.mk H; clear H; have hcz11_0 : w6.cell? ⟨gb121, 0, none⟩ = some (.int .i8 0) := (blk_cell BK121.out 0).trans rfl; have hcz11_1 : w6.cell? ⟨gb121, 1, none⟩ = some (.int .i16 0) := (blk_cell BK121.out 1).trans rfl; have hfz11_0 := blk_frozen BK121.out 0; have hfz11_1 := blk_frozen BK121.out 1; go_wp2_with (first | ((with_reducible refine gate_callee (f := 41) rfl ?_); refine goesL_ (some 21) rfl rfl Tryz.func41 z8_ rfl #[.int .i64 (wrap64 ((rd_T60 l0 x3_1).f0))] rfl z1_ ?_; (with_reducible refine (spec_l01Kind.calls (wrap64 ((rd_T60 l0 x3_1).f0)) true _ A8.out).mono ?_); rintro e w' ⟨rfl, ⟨nd, rfl⟩⟩; refine ⟨_, rfl, ?_⟩)); go_meet
             case rel => exact ⟨_, (true), z9_, H', ⟨by have := HK1.out; first | omega | exact Nat.le_refl _⟩, ⟨z101_⟩, ⟨z63_⟩⟩
            ·rw [if_neg c10] at H; have c10b0 : decide (((rd_T60 l0 x3_1).f1) < 0) = false := decide_eq_false c10; clear c10; (first | rw [c10b0] | (simp only [i64_w, i32_w]; rw [c10b0]) | skip); replace H := Option.bind_eq_some_iff.mp H; obtain ⟨t123, A120, H⟩ := H;  have A12 := Aside0.mk A120; clear A120; have H' := Aside0.mk H; clear H; have hcz13_0 : w6.cell? ⟨gb121, 0, none⟩ = some (.int .i8 0) := (blk_cell BK121.out 0).trans rfl; have hcz13_1 : w6.cell? ⟨gb121, 1, none⟩ = some (.int .i16 0) := (blk_cell BK121.out 1).trans rfl; have hfz13_0 := blk_frozen BK121.out 0; have hfz13_1 := blk_frozen BK121.out 1; go_wp2_with (first | ((with_reducible refine gate_callee (f := 41) rfl ?_); refine goesL_ (some 21) rfl rfl Tryz.func41 z8_ rfl #[.int .i64 (wrap64 ((rd_T60 l0 x3_1).f0))] rfl z1_ ?_; (with_reducible refine (spec_l01Kind.calls (wrap64 ((rd_T60 l0 x3_1).f0)) true _ A8.out).mono ?_); rintro e w' ⟨rfl, ⟨nd, rfl⟩⟩; refine ⟨_, rfl, ?_⟩) | (go_at_call 57; (with_reducible refine (spec_l01Ends.calls ((rd_T60 l0 x3_1).f0) ((rd_T60 l0 x3_1).f1) t123 _ A12.out).mono ?_); rintro e w14 ⟨rfl, hb⟩; replace BK121 := Aside0.mk (blk_below (g := gb121) (o := .cells #[.int .i8 ((rd_T60 l0 x3_1).f0), .int .i16 ((rd_T60 l0 x3_1).f1)] 60 (0, 0)) z101_ hb); replace HB := Aside0.mk (below_step z63_ hb); (try clear hb))); go_meet
             case rel => exact ⟨_, (decide (t123 > 200)), z9_, H', ⟨by have := HK1.out; first | omega | exact Nat.le_refl _⟩, ⟨z159_⟩, ⟨z63_⟩⟩
           ·replace c9 := Bool.eq_false_iff.mpr c9; subst c9; rw [if_neg (show ¬ (false = true) by decide)] at H; have H' := Aside0.mk H; clear H; have hcz15_0 : w6.cell? ⟨gb121, 0, none⟩ = some (.int .i8 0) := (blk_cell BK121.out 0).trans rfl; have hcz15_1 : w6.cell? ⟨gb121, 1, none⟩ = some (.int .i16 0) := (blk_cell BK121.out 1).trans rfl; have hfz15_0 := blk_frozen BK121.out 0; have hfz15_1 := blk_frozen BK121.out 1; go_wp2_with (first | ((with_reducible refine gate_callee (f := 41) rfl ?_); refine goesL_ (some 21) rfl rfl Tryz.func41 z8_ rfl #[.int .i64 (wrap64 ((rd_T60 l0 x3_1).f0))] rfl z1_ ?_; (with_reducible refine (spec_l01Kind.calls (wrap64 ((rd_T60 l0 x3_1).f0)) false _ A8.out).mono ?_); rintro e w' ⟨rfl, ⟨nd, rfl⟩⟩; refine ⟨_, rfl, ?_⟩)); go_meet
            case rel => exact ⟨_, (true), z9_, H', ⟨by have := HK1.out; first | omega | exact Nat.le_refl _⟩, ⟨z101_⟩, ⟨z63_⟩⟩
         case rest =>
           clear HC5; (try clear c1); (try clear p1); (try clear q1); (try clear hx1); (try clear c2); (try clear c2b0); (try clear c2b1); (try clear p2); (try clear c3); (try clear c3b0); (try clear c4); (try clear c4b0); (try clear p6); (try clear c9); (try clear c10); (try clear c10b0); (try clear p12); (try clear q12); (try clear hx12); (try clear hcz11_0); (try clear hcz11_1); (try clear hcz13_0); (try clear hcz13_1); (try clear hcz15_0); (try clear hcz15_1); (try clear hcz7_0); (try clear hcz7_1); (try clear hfz11_0); (try clear hfz11_1); (try clear hfz13_0); (try clear hfz13_1); (try clear hfz15_0); (try clear hfz15_1); (try clear hfz7_0); (try clear hfz7_1); (try clear hx120_0); (try clear hx120_1); (try clear p120); (try clear p2); (try clear q120); obtain ⟨kq, x32_4, rfl, HA, HJ4, BK121, HB⟩ := hcut
           cases kq with
           | zero => exact absurd HA.out (by simp [spec_l01Notches.j1])
           | succ kj4 =>
             have H := HA.out; clear HA; simp only [spec_l01Notches.j1] at H; by_cases c16 : x32_4 = true
             ·subst c16; rw [if_pos rfl] at H; obtain rfl := Option.some.inj H; go_wp2; go_ret; exact ⟨z6_, z63_⟩
             ·replace c16 := Bool.eq_false_iff.mpr c16; subst c16; rw [if_neg (show ¬ (false = true) by decide)] at H; by_cases c17 : x3_1 > 0
              ·rw [if_pos c17] at H; have c17b0 : decide (0 < x3_1) = true := decide_eq_true c17; clear c17; obtain ⟨ji18, hji18⟩ : ∃ j_ : Int, (wrap64 (x3_1 - 1)) = j_ := ⟨_, rfl⟩; (replace H : (if 0 ≤ (ji18) then (if (ji18) < (l0.length : Int) then (if ((rd_T60 l0 x3_1).f0) > ((rd_T60 l0 (ji18)).f0) then (some false) else ((spec_l01Ends.f ((rd_T60 l0 (ji18)).f0) ((rd_T60 l0 (ji18)).f1)).bind fun t126 => (if (wrap64 (((rd_T60 l0 x3_1).f1))) ≤ t126 then (some false) else (spec_l01Notches.l0 kj4 l0 (wrap64 (x3_1 + 1)))))) else (none)) else (none)) = some r := by first | (rw [hji18] at H; exact H) | (simp only [hji18] at H ⊢; exact H)); have hji18w : (IntKind.i64.wrap (x3_1 - 1)) = ji18 := (i64_w _).trans hji18; by_cases c19 : 0 ≤ (ji18)
               ·rw [if_pos c19] at H; have c19b0 : decide (0 ≤ (ji18)) = true := decide_eq_true c19; clear c19; by_cases c20 : (ji18) < (l0.length : Int)
                ·rw [if_pos c20] at H; have c20b0 : decide ((ji18) < (l0.length : Int)) = true := decide_eq_true c20; clear c20; by_cases c21 : ((rd_T60 l0 x3_1).f0) > ((rd_T60 l0 (ji18)).f0)
                 ·rw [if_pos c21] at H; have c21b0 : decide (((rd_T60 l0 (ji18)).f0) < ((rd_T60 l0 x3_1).f0)) = true := decide_eq_true c21; clear c21; obtain rfl := Option.some.inj H; (try go_wp2); replace BK121 := Aside0.mk (blk_drew BK121.out); replace HB := Aside0.mk (below_drew1 HB.out); have p124 : 0 ≤ ((ji18) : Int) := of_decide_eq_true z2_; have q124 : (ji18) < (l0.length : Int) := of_decide_eq_true z2_; obtain ⟨ad124, e124, hx124_0, hx124_1⟩ := at_T60 HR0.out (ji18) p124 q124; have hw124_1 := hx124_1; have hw124_0 := hx124_0; obtain rfl : ad120 = ad124 := (by injection e124); (try replace hx124_0 := (HB.out.cell (World.block_lt_of_cell? w _ hx124_0)).trans hx124_0); (try replace hx124_1 := (HB.out.cell (World.block_lt_of_cell? w _ hx124_1)).trans hx124_1); replace p124 := eq_true p124; replace q124 := eq_true q124; refine start_ (n := 25) (S := fun w' => w'.cell? ⟨gb121, 0, none⟩ = some (.int .i8 ((rd_T60 l0 x3_1).f0)) ∧ w'.cell? ⟨gb121, 1, none⟩ = some (.int .i16 ((rd_T60 l0 x3_1).f1)) ∧ w'.cell? (ad120.add (((ji18)).toNat * 2)) = some (.int .i8 ((rd_T60 l0 (ji18)).f0)) ∧ w'.cell? ⟨(ad120.add (((ji18)).toNat * 2)).block, (ad120.add (((ji18)).toNat * 2)).off + 1, none⟩ = some (.int .i16 ((rd_T60 l0 (ji18)).f1))) (ds := []) #[f_,f_,f_,f_,f_,f_,f_,f_,f_,f_,f_,f_,f_,f_,f_,f_,f_,f_,f_,f_,f_,f_,f_,f_,f_] z8_ rfl rfl ⟨(blk_cell BK121.out 0).trans rfl, (blk_cell BK121.out 1).trans rfl, ((HB.out.cell (World.block_lt_of_cell? _ _ hw124_0)).trans hw124_0), ((HB.out.cell (World.block_lt_of_cell? _ _ hw124_1)).trans hw124_1)⟩ (fun hHeld => ?_); refine with_tabW spec_l01Notches.tab9 spec_l01Notches.bits9 (fun HT_ HW_ => ?_); generalize wc.drew = w22 at BK121 HB hx124_0 hx124_1 hHeld ⊢; apply pu_ 0 (some 33) #[t_,f_,f_,f_,f_,f_,f_,f_,f_,f_,f_,f_,f_,f_,f_,f_,f_,f_,f_,f_,f_,f_,f_,f_,f_] HT_
                  apply pu_ 1 (some 34) #[t_,t_,f_,f_,f_,f_,f_,f_,f_,f_,f_,f_,f_,f_,f_,f_,f_,f_,f_,f_,f_,f_,f_,f_,f_] HT_
                  apply pu_ 2 (some 35) #[t_,t_,t_,f_,f_,f_,f_,f_,f_,f_,f_,f_,f_,f_,f_,f_,f_,f_,f_,f_,f_,f_,f_,f_,f_] HT_
                  apply pu_ 3 (some 36) #[t_,t_,t_,t_,f_,f_,f_,f_,f_,f_,f_,f_,f_,f_,f_,f_,f_,f_,f_,f_,f_,f_,f_,f_,f_] HT_
                  apply pu_ 5 (some 38) #[t_,t_,t_,t_,f_,t_,f_,f_,f_,f_,f_,f_,f_,f_,f_,f_,f_,f_,f_,f_,f_,f_,f_,f_,f_] HT_
                  apply pu_ 6 (some 39) #[t_,t_,t_,t_,f_,t_,t_,f_,f_,f_,f_,f_,f_,f_,f_,f_,f_,f_,f_,f_,f_,f_,f_,f_,f_] HT_
                  apply pu_ 7 (some 40) #[t_,t_,t_,t_,f_,t_,t_,t_,f_,f_,f_,f_,f_,f_,f_,f_,f_,f_,f_,f_,f_,f_,f_,f_,f_] HT_
                  apply pu_ 8 (some 41) #[t_,t_,t_,t_,f_,t_,t_,t_,t_,f_,f_,f_,f_,f_,f_,f_,f_,f_,f_,f_,f_,f_,f_,f_,f_] HT_
                  apply pu_ 9 (some 42) #[t_,t_,t_,t_,f_,t_,t_,t_,t_,t_,f_,f_,f_,f_,f_,f_,f_,f_,f_,f_,f_,f_,f_,f_,f_] HT_
                  refine take_ (i := 4) (N := some 37) (v := ?_) (a' := ?_) #[t_,t_,t_,t_,t_,t_,t_,t_,t_,t_,f_,f_,f_,f_,f_,f_,f_,f_,f_,f_,f_,f_,f_,f_,f_] rfl rfl (take_ofW HT_.out HW_.out z8_) (fun _ _ _ h => h) (Or.inl ⟨by rfl, ?_⟩) hHeld ?_ ?_; rotate_left
                  ·rintro w' ⟨s0, s1, s2, s3⟩; go_simp; with_reducible rfl
                  rotate_left
                  ·simp only [Act.put, List.setIfInBounds_toArray, List.set_cons_zero, List.set_cons_succ, i64_w, i32_w]; rfl
                  refine take_ (i := 10) (N := some 43) (v := ?_) (a' := ?_) #[t_,t_,t_,t_,t_,t_,t_,t_,t_,t_,t_,f_,f_,f_,f_,f_,f_,f_,f_,f_,f_,f_,f_,f_,f_] rfl rfl (take_ofW HT_.out HW_.out z8_) (fun _ _ _ h => h) (Or.inl ⟨by rfl, ?_⟩) hHeld ?_ ?_; rotate_left
                  ·rintro w' ⟨s0, s1, s2, s3⟩; go_simp; with_reducible rfl
                  rotate_left
                  ·simp only [Act.put, List.setIfInBounds_toArray, List.set_cons_zero, List.set_cons_succ, i64_w, i32_w]; rfl
                  apply pu_ 11 (some 44) #[t_,t_,t_,t_,t_,t_,t_,t_,t_,t_,t_,t_,f_,f_,f_,f_,f_,f_,f_,f_,f_,f_,f_,f_,f_] HT_
                  apply pu_ 12 (some 45) #[t_,t_,t_,t_,t_,t_,t_,t_,t_,t_,t_,t_,t_,f_,f_,f_,f_,f_,f_,f_,f_,f_,f_,f_,f_] HT_
                  refine pure_ (i := 13) (N := some 46) (v := undef) (a' := ?_) #[t_,t_,t_,t_,t_,t_,t_,t_,t_,t_,t_,t_,t_,t_,f_,f_,f_,f_,f_,f_,f_,f_,f_,f_,f_] rfl rfl (any_of HT_.out z8_) (fun _ _ _ h => h) (Or.inr ⟨by rfl, rfl⟩) ?_ ?_; rotate_left
                  ·simp only [Act.put, List.setIfInBounds_toArray, List.set_cons_zero, List.set_cons_succ, i64_w, i32_w]; rfl
                  refine pure_ (i := 14) (N := some 47) (v := undef) (a' := ?_) #[t_,t_,t_,t_,t_,t_,t_,t_,t_,t_,t_,t_,t_,t_,t_,f_,f_,f_,f_,f_,f_,f_,f_,f_,f_] rfl rfl (any_of HT_.out z8_) (fun _ _ _ h => h) (Or.inr ⟨by rfl, rfl⟩) ?_ ?_; rotate_left
                  ·simp only [Act.put, List.setIfInBounds_toArray, List.set_cons_zero, List.set_cons_succ, i64_w, i32_w]; rfl
                  refine pure_ (i := 15) (N := some 48) (v := undef) (a' := ?_) #[t_,t_,t_,t_,t_,t_,t_,t_,t_,t_,t_,t_,t_,t_,t_,t_,f_,f_,f_,f_,f_,f_,f_,f_,f_] rfl rfl (any_of HT_.out z8_) (fun _ _ _ h => h) (Or.inr ⟨by rfl, rfl⟩) ?_ ?_; rotate_left
                  ·simp only [Act.put, List.setIfInBounds_toArray, List.set_cons_zero, List.set_cons_succ, i64_w, i32_w]; rfl
                  refine pure_ (i := 16) (N := some 49) (v := undef) (a' := ?_) #[t_,t_,t_,t_,t_,t_,t_,t_,t_,t_,t_,t_,t_,t_,t_,t_,t_,f_,f_,f_,f_,f_,f_,f_,f_] rfl rfl (any_of HT_.out z8_) (fun _ _ _ h => h) (Or.inr ⟨by rfl, rfl⟩) ?_ ?_; rotate_left
                  ·simp only [Act.put, List.setIfInBounds_toArray, List.set_cons_zero, List.set_cons_succ, i64_w, i32_w]; rfl
                  refine pure_ (i := 17) (N := some 50) (v := undef) (a' := ?_) #[t_,t_,t_,t_,t_,t_,t_,t_,t_,t_,t_,t_,t_,t_,t_,t_,t_,t_,f_,f_,f_,f_,f_,f_,f_] rfl rfl (any_of HT_.out z8_) (fun _ _ _ h => h) (Or.inr ⟨by rfl, rfl⟩) ?_ ?_; rotate_left
                  ·simp only [Act.put, List.setIfInBounds_toArray, List.set_cons_zero, List.set_cons_succ, i64_w, i32_w]; rfl
                  refine pure_ (i := 18) (N := some 51) (v := undef) (a' := ?_) #[t_,t_,t_,t_,t_,t_,t_,t_,t_,t_,t_,t_,t_,t_,t_,t_,t_,t_,t_,f_,f_,f_,f_,f_,f_] rfl rfl (any_of HT_.out z8_) (fun _ _ _ h => h) (Or.inr ⟨by rfl, rfl⟩) ?_ ?_; rotate_left
                  ·simp only [Act.put, List.setIfInBounds_toArray, List.set_cons_zero, List.set_cons_succ, i64_w, i32_w]; rfl
                  refine pure_ (i := 19) (N := some 52) (v := undef) (a' := ?_) #[t_,t_,t_,t_,t_,t_,t_,t_,t_,t_,t_,t_,t_,t_,t_,t_,t_,t_,t_,t_,f_,f_,f_,f_,f_] rfl rfl (any_of HT_.out z8_) (fun _ _ _ h => h) (Or.inr ⟨by rfl, rfl⟩) ?_ ?_; rotate_left
                  ·simp only [Act.put, List.setIfInBounds_toArray, List.set_cons_zero, List.set_cons_succ, i64_w, i32_w]; rfl
                  refine pure_ (i := 20) (N := some 53) (v := undef) (a' := ?_) #[t_,t_,t_,t_,t_,t_,t_,t_,t_,t_,t_,t_,t_,t_,t_,t_,t_,t_,t_,t_,t_,f_,f_,f_,f_] rfl rfl (any_of HT_.out z8_) (fun _ _ _ h => h) (Or.inr ⟨by rfl, rfl⟩) ?_ ?_; rotate_left
                  ·simp only [Act.put, List.setIfInBounds_toArray, List.set_cons_zero, List.set_cons_succ, i64_w, i32_w]; rfl
                  refine pure_ (i := 21) (N := some 54) (v := undef) (a' := ?_) #[t_,t_,t_,t_,t_,t_,t_,t_,t_,t_,t_,t_,t_,t_,t_,t_,t_,t_,t_,t_,t_,t_,f_,f_,f_] rfl rfl (any_of HT_.out z8_) (fun _ _ _ h => h) (Or.inr ⟨by rfl, rfl⟩) ?_ ?_; rotate_left
                  ·simp only [Act.put, List.setIfInBounds_toArray, List.set_cons_zero, List.set_cons_succ, i64_w, i32_w]; rfl
                  refine pure_ (i := 22) (N := some 55) (v := undef) (a' := ?_) #[t_,t_,t_,t_,t_,t_,t_,t_,t_,t_,t_,t_,t_,t_,t_,t_,t_,t_,t_,t_,t_,t_,t_,f_,f_] rfl rfl (any_of HT_.out z8_) (fun _ _ _ h => h) (Or.inr ⟨by rfl, rfl⟩) ?_ ?_; rotate_left
                  ·simp only [Act.put, List.setIfInBounds_toArray, List.set_cons_zero, List.set_cons_succ, i64_w, i32_w]; rfl
                  apply pu_ 23 (some 56) #[t_,t_,t_,t_,t_,t_,t_,t_,t_,t_,t_,t_,t_,t_,t_,t_,t_,t_,t_,t_,t_,t_,t_,t_,f_] HT_
                  apply pu_ 24 (some 57) #[t_,t_,t_,t_,t_,t_,t_,t_,t_,t_,t_,t_,t_,t_,t_,t_,t_,t_,t_,t_,t_,t_,t_,t_,t_] HT_
                  refine done_ (done_of HT_.out z8_) ?_; (try go_wp2); go_ret; exact ⟨by first | rfl | (simp [errW_none, errW_some] <;> rfl) | (simp only [← hji18]; first | rfl | (simp [errW_none, errW_some] <;> rfl)) | (simp [*, errW_none, errW_some] <;> rfl), z63_⟩
                 ·rw [if_neg c21] at H; have c21b0 : decide (((rd_T60 l0 (ji18)).f0) < ((rd_T60 l0 x3_1).f0)) = false := decide_eq_false c21; clear c21; replace H := Option.bind_eq_some_iff.mp H; obtain ⟨t126, A230, H⟩ := H;  have A23 := Aside0.mk A230; clear A230; by_cases c24 : (wrap64 (((rd_T60 l0 x3_1).f1))) ≤ t126
                  ·rw [if_pos c24] at H; have c24b0 : decide ((wrap64 (((rd_T60 l0 x3_1).f1))) ≤ t126) = true := decide_eq_true c24; clear c24; obtain rfl := Option.some.inj H; (try go_wp2); replace BK121 := Aside0.mk (blk_drew BK121.out); replace HB := Aside0.mk (below_drew1 HB.out); have p124 : 0 ≤ ((ji18) : Int) := of_decide_eq_true z2_; have q124 : (ji18) < (l0.length : Int) := of_decide_eq_true z2_; obtain ⟨ad124, e124, hx124_0, hx124_1⟩ := at_T60 HR0.out (ji18) p124 q124; have hw124_1 := hx124_1; have hw124_0 := hx124_0; obtain rfl : ad120 = ad124 := (by injection e124); (try replace hx124_0 := (HB.out.cell (World.block_lt_of_cell? w _ hx124_0)).trans hx124_0); (try replace hx124_1 := (HB.out.cell (World.block_lt_of_cell? w _ hx124_1)).trans hx124_1); replace p124 := eq_true p124; replace q124 := eq_true q124; have p125 : 0 ≤ ((ji18) : Int) := of_decide_eq_true z2_; have q125 : (ji18) < (l0.length : Int) := of_decide_eq_true z2_; obtain ⟨ad125, e125, hx125_0, hx125_1⟩ := at_T60 HR0.out (ji18) p125 q125; have hw125_1 := hx125_1; have hw125_0 := hx125_0; obtain rfl : ad120 = ad125 := (by injection e125); (try replace hx125_0 := (HB.out.cell (World.block_lt_of_cell? w _ hx125_0)).trans hx125_0); (try replace hx125_1 := (HB.out.cell (World.block_lt_of_cell? w _ hx125_1)).trans hx125_1); replace p125 := eq_true p125; replace q125 := eq_true q125; refine start_ (n := 25) (S := fun w' => w'.cell? ⟨gb121, 0, none⟩ = some (.int .i8 ((rd_T60 l0 x3_1).f0)) ∧ w'.cell? ⟨gb121, 1, none⟩ = some (.int .i16 ((rd_T60 l0 x3_1).f1)) ∧ w'.cell? (ad120.add (((ji18)).toNat * 2)) = some (.int .i8 ((rd_T60 l0 (ji18)).f0)) ∧ w'.cell? ⟨(ad120.add (((ji18)).toNat * 2)).block, (ad120.add (((ji18)).toNat * 2)).off + 1, none⟩ = some (.int .i16 ((rd_T60 l0 (ji18)).f1)) ∧ w'.cell? (ad120.add (((ji18)).toNat * 2)) = some (.int .i8 ((rd_T60 l0 (ji18)).f0)) ∧ w'.cell? ⟨(ad120.add (((ji18)).toNat * 2)).block, (ad120.add (((ji18)).toNat * 2)).off + 1, none⟩ = some (.int .i16 ((rd_T60 l0 (ji18)).f1))) (ds := []) #[f_,f_,f_,f_,f_,f_,f_,f_,f_,f_,f_,f_,f_,f_,f_,f_,f_,f_,f_,f_,f_,f_,f_,f_,f_] z8_ rfl rfl ⟨(blk_cell BK121.out 0).trans rfl, (blk_cell BK121.out 1).trans rfl, ((HB.out.cell (World.block_lt_of_cell? _ _ hw124_0)).trans hw124_0), ((HB.out.cell (World.block_lt_of_cell? _ _ hw124_1)).trans hw124_1), ((HB.out.cell (World.block_lt_of_cell? _ _ hw125_0)).trans hw125_0), ((HB.out.cell (World.block_lt_of_cell? _ _ hw125_1)).trans hw125_1)⟩ (fun hHeld => ?_); refine with_tabW spec_l01Notches.tab9 spec_l01Notches.bits9 (fun HT_ HW_ => ?_); generalize wc.drew = w25 at BK121 HB hx124_0 hx124_1 hx125_0 hx125_1 hHeld ⊢; apply pu_ 0 (some 33) #[t_,f_,f_,f_,f_,f_,f_,f_,f_,f_,f_,f_,f_,f_,f_,f_,f_,f_,f_,f_,f_,f_,f_,f_,f_] HT_
                   apply pu_ 1 (some 34) #[t_,t_,f_,f_,f_,f_,f_,f_,f_,f_,f_,f_,f_,f_,f_,f_,f_,f_,f_,f_,f_,f_,f_,f_,f_] HT_
                   apply pu_ 2 (some 35) #[t_,t_,t_,f_,f_,f_,f_,f_,f_,f_,f_,f_,f_,f_,f_,f_,f_,f_,f_,f_,f_,f_,f_,f_,f_] HT_
                   apply pu_ 3 (some 36) #[t_,t_,t_,t_,f_,f_,f_,f_,f_,f_,f_,f_,f_,f_,f_,f_,f_,f_,f_,f_,f_,f_,f_,f_,f_] HT_
                   apply pu_ 5 (some 38) #[t_,t_,t_,t_,f_,t_,f_,f_,f_,f_,f_,f_,f_,f_,f_,f_,f_,f_,f_,f_,f_,f_,f_,f_,f_] HT_
                   apply pu_ 6 (some 39) #[t_,t_,t_,t_,f_,t_,t_,f_,f_,f_,f_,f_,f_,f_,f_,f_,f_,f_,f_,f_,f_,f_,f_,f_,f_] HT_
                   apply pu_ 7 (some 40) #[t_,t_,t_,t_,f_,t_,t_,t_,f_,f_,f_,f_,f_,f_,f_,f_,f_,f_,f_,f_,f_,f_,f_,f_,f_] HT_
                   apply pu_ 8 (some 41) #[t_,t_,t_,t_,f_,t_,t_,t_,t_,f_,f_,f_,f_,f_,f_,f_,f_,f_,f_,f_,f_,f_,f_,f_,f_] HT_
                   apply pu_ 9 (some 42) #[t_,t_,t_,t_,f_,t_,t_,t_,t_,t_,f_,f_,f_,f_,f_,f_,f_,f_,f_,f_,f_,f_,f_,f_,f_] HT_
                   refine take_ (i := 4) (N := some 37) (v := ?_) (a' := ?_) #[t_,t_,t_,t_,t_,t_,t_,t_,t_,t_,f_,f_,f_,f_,f_,f_,f_,f_,f_,f_,f_,f_,f_,f_,f_] rfl rfl (take_ofW HT_.out HW_.out z8_) (fun _ _ _ h => h) (Or.inl ⟨by rfl, ?_⟩) hHeld ?_ ?_; rotate_left
                   ·rintro w' ⟨s0, s1, s2, s3, s4, s5⟩; go_simp; with_reducible rfl
                   rotate_left
                   ·simp only [Act.put, List.setIfInBounds_toArray, List.set_cons_zero, List.set_cons_succ, i64_w, i32_w]; rfl
                   refine take_ (i := 10) (N := some 43) (v := ?_) (a' := ?_) #[t_,t_,t_,t_,t_,t_,t_,t_,t_,t_,t_,f_,f_,f_,f_,f_,f_,f_,f_,f_,f_,f_,f_,f_,f_] rfl rfl (take_ofW HT_.out HW_.out z8_) (fun _ _ _ h => h) (Or.inl ⟨by rfl, ?_⟩) hHeld ?_ ?_; rotate_left
                   ·rintro w' ⟨s0, s1, s2, s3, s4, s5⟩; go_simp; with_reducible rfl
                   rotate_left
                   ·simp only [Act.put, List.setIfInBounds_toArray, List.set_cons_zero, List.set_cons_succ, i64_w, i32_w]; rfl
                   apply pu_ 11 (some 44) #[t_,t_,t_,t_,t_,t_,t_,t_,t_,t_,t_,t_,f_,f_,f_,f_,f_,f_,f_,f_,f_,f_,f_,f_,f_] HT_
                   apply pu_ 12 (some 45) #[t_,t_,t_,t_,t_,t_,t_,t_,t_,t_,t_,t_,t_,f_,f_,f_,f_,f_,f_,f_,f_,f_,f_,f_,f_] HT_
                   apply pu_ 13 (some 46) #[t_,t_,t_,t_,t_,t_,t_,t_,t_,t_,t_,t_,t_,t_,f_,f_,f_,f_,f_,f_,f_,f_,f_,f_,f_] HT_
                   apply pu_ 16 (some 49) #[t_,t_,t_,t_,t_,t_,t_,t_,t_,t_,t_,t_,t_,t_,f_,f_,t_,f_,f_,f_,f_,f_,f_,f_,f_] HT_
                   apply pu_ 17 (some 50) #[t_,t_,t_,t_,t_,t_,t_,t_,t_,t_,t_,t_,t_,t_,f_,f_,t_,t_,f_,f_,f_,f_,f_,f_,f_] HT_
                   apply pu_ 18 (some 51) #[t_,t_,t_,t_,t_,t_,t_,t_,t_,t_,t_,t_,t_,t_,f_,f_,t_,t_,t_,f_,f_,f_,f_,f_,f_] HT_
                   apply pu_ 19 (some 52) #[t_,t_,t_,t_,t_,t_,t_,t_,t_,t_,t_,t_,t_,t_,f_,f_,t_,t_,t_,t_,f_,f_,f_,f_,f_] HT_
                   refine take_ (i := 14) (N := some 47) (v := ?_) (a' := ?_) #[t_,t_,t_,t_,t_,t_,t_,t_,t_,t_,t_,t_,t_,t_,t_,f_,t_,t_,t_,t_,f_,f_,f_,f_,f_] rfl rfl (take_ofW HT_.out HW_.out z8_) (fun _ _ _ h => h) (Or.inl ⟨by rfl, ?_⟩) hHeld ?_ ?_; rotate_left
                   ·rintro w' ⟨s0, s1, s2, s3, s4, s5⟩; go_simp; with_reducible rfl
                   rotate_left
                   ·simp only [Act.put, List.setIfInBounds_toArray, List.set_cons_zero, List.set_cons_succ, i64_w, i32_w]; rfl
                   apply pu_ 15 (some 48) #[t_,t_,t_,t_,t_,t_,t_,t_,t_,t_,t_,t_,t_,t_,t_,t_,t_,t_,t_,t_,f_,f_,f_,f_,f_] HT_
                   refine take_ (i := 20) (N := some 53) (v := ?_) (a' := ?_) #[t_,t_,t_,t_,t_,t_,t_,t_,t_,t_,t_,t_,t_,t_,t_,t_,t_,t_,t_,t_,t_,f_,f_,f_,f_] rfl rfl (take_ofW HT_.out HW_.out z8_) (fun _ _ _ h => h) (Or.inl ⟨by rfl, ?_⟩) hHeld ?_ ?_; rotate_left
                   ·rintro w' ⟨s0, s1, s2, s3, s4, s5⟩; go_simp; with_reducible rfl
                   rotate_left
                   ·simp only [Act.put, List.setIfInBounds_toArray, List.set_cons_zero, List.set_cons_succ, i64_w, i32_w]; rfl
                   refine one_ (i := 21) (N := some 54) #[t_,t_,t_,t_,t_,t_,t_,t_,t_,t_,t_,t_,t_,t_,t_,t_,t_,t_,t_,t_,t_,t_,f_,f_,f_] rfl rfl (one_of HT_.out z8_) (by decide) (fun K hK => ?_); refine goes_ Tryz.func57 z8_ rfl #[.agg #[.int .i8 ((rd_T60 l0 (ji18)).f0), .int .i16 ((rd_T60 l0 (ji18)).f1)]] (by rfl) rfl rfl (by (try simp only [List.map_toArray, List.map_cons, List.map_nil]); first | done | (simp only [hji18]; rfl) | (go_simp; done) | rfl | (simp only [List.length_drop, List.length_take]; rfl)) ?_; (with_reducible refine (spec_l01Ends.calls ((rd_T60 l0 (ji18)).f0) ((rd_T60 l0 (ji18)).f1) t126 _ A23.out).mono ?_); rintro e w26 ⟨rfl, hb⟩; refine ⟨_, rfl, ?_⟩; replace BK121 := Aside0.mk (blk_below (g := gb121) (o := .cells #[.int .i8 ((rd_T60 l0 x3_1).f0), .int .i16 ((rd_T60 l0 x3_1).f1)] 60 (0, 0)) z159_ hb); replace HB := Aside0.mk (below_step z63_ hb); (try clear hb); refine hK.out _ _ ⟨(blk_cell BK121.out 0).trans rfl, (blk_cell BK121.out 1).trans rfl, ((HB.out.cell (World.block_lt_of_cell? _ _ hw124_0)).trans hw124_0), ((HB.out.cell (World.block_lt_of_cell? _ _ hw124_1)).trans hw124_1), ((HB.out.cell (World.block_lt_of_cell? _ _ hw125_0)).trans hw125_0), ((HB.out.cell (World.block_lt_of_cell? _ _ hw125_1)).trans hw125_1)⟩ (fun hHeld => ?_); clear hK K; refine norm_ (a' := ?_) ?_ ?_; rotate_left
                   ·show Act.put _ (some 54) _ = _; simp only [Act.put, List.setIfInBounds_toArray, List.set_cons_zero, List.set_cons_succ, i64_w, i32_w]; rfl
                   apply pu_ 22 (some 55) #[t_,t_,t_,t_,t_,t_,t_,t_,t_,t_,t_,t_,t_,t_,t_,t_,t_,t_,t_,t_,t_,t_,t_,f_,f_] HT_
                   apply pu_ 23 (some 56) #[t_,t_,t_,t_,t_,t_,t_,t_,t_,t_,t_,t_,t_,t_,t_,t_,t_,t_,t_,t_,t_,t_,t_,t_,f_] HT_
                   apply pu_ 24 (some 57) #[t_,t_,t_,t_,t_,t_,t_,t_,t_,t_,t_,t_,t_,t_,t_,t_,t_,t_,t_,t_,t_,t_,t_,t_,t_] HT_
                   refine done_ (done_of HT_.out z8_) ?_; (try go_wp2); go_ret; exact ⟨by first | rfl | (simp [errW_none, errW_some] <;> rfl) | (simp only [← hji18]; first | rfl | (simp [errW_none, errW_some] <;> rfl)) | (simp [*, errW_none, errW_some] <;> rfl), z63_⟩
                  ·rw [if_neg c24] at H; have c24b0 : decide ((wrap64 (((rd_T60 l0 x3_1).f1))) ≤ t126) = false := decide_eq_false c24; clear c24; have H' := Aside0.mk H; clear H; (try go_wp2); replace BK121 := Aside0.mk (blk_drew BK121.out); replace HB := Aside0.mk (below_drew1 HB.out); have p124 : 0 ≤ ((ji18) : Int) := of_decide_eq_true z2_; have q124 : (ji18) < (l0.length : Int) := of_decide_eq_true z2_; obtain ⟨ad124, e124, hx124_0, hx124_1⟩ := at_T60 HR0.out (ji18) p124 q124; have hw124_1 := hx124_1; have hw124_0 := hx124_0; obtain rfl : ad120 = ad124 := (by injection e124); (try replace hx124_0 := (HB.out.cell (World.block_lt_of_cell? w _ hx124_0)).trans hx124_0); (try replace hx124_1 := (HB.out.cell (World.block_lt_of_cell? w _ hx124_1)).trans hx124_1); replace p124 := eq_true p124; replace q124 := eq_true q124; have p125 : 0 ≤ ((ji18) : Int) := of_decide_eq_true z2_; have q125 : (ji18) < (l0.length : Int) := of_decide_eq_true z2_; obtain ⟨ad125, e125, hx125_0, hx125_1⟩ := at_T60 HR0.out (ji18) p125 q125; have hw125_1 := hx125_1; have hw125_0 := hx125_0; obtain rfl : ad120 = ad125 := (by injection e125); (try replace hx125_0 := (HB.out.cell (World.block_lt_of_cell? w _ hx125_0)).trans hx125_0); (try replace hx125_1 := (HB.out.cell (World.block_lt_of_cell? w _ hx125_1)).trans hx125_1); replace p125 := eq_true p125; replace q125 := eq_true q125; refine start_ (n := 25) (S := fun w' => w'.cell? ⟨gb121, 0, none⟩ = some (.int .i8 ((rd_T60 l0 x3_1).f0)) ∧ w'.cell? ⟨gb121, 1, none⟩ = some (.int .i16 ((rd_T60 l0 x3_1).f1)) ∧ w'.cell? (ad120.add (((ji18)).toNat * 2)) = some (.int .i8 ((rd_T60 l0 (ji18)).f0)) ∧ w'.cell? ⟨(ad120.add (((ji18)).toNat * 2)).block, (ad120.add (((ji18)).toNat * 2)).off + 1, none⟩ = some (.int .i16 ((rd_T60 l0 (ji18)).f1)) ∧ w'.cell? (ad120.add (((ji18)).toNat * 2)) = some (.int .i8 ((rd_T60 l0 (ji18)).f0)) ∧ w'.cell? ⟨(ad120.add (((ji18)).toNat * 2)).block, (ad120.add (((ji18)).toNat * 2)).off + 1, none⟩ = some (.int .i16 ((rd_T60 l0 (ji18)).f1))) (ds := []) #[f_,f_,f_,f_,f_,f_,f_,f_,f_,f_,f_,f_,f_,f_,f_,f_,f_,f_,f_,f_,f_,f_,f_,f_,f_] z8_ rfl rfl ⟨(blk_cell BK121.out 0).trans rfl, (blk_cell BK121.out 1).trans rfl, ((HB.out.cell (World.block_lt_of_cell? _ _ hw124_0)).trans hw124_0), ((HB.out.cell (World.block_lt_of_cell? _ _ hw124_1)).trans hw124_1), ((HB.out.cell (World.block_lt_of_cell? _ _ hw125_0)).trans hw125_0), ((HB.out.cell (World.block_lt_of_cell? _ _ hw125_1)).trans hw125_1)⟩ (fun hHeld => ?_); refine with_tabW spec_l01Notches.tab9 spec_l01Notches.bits9 (fun HT_ HW_ => ?_); generalize wc.drew = w27 at BK121 HB hx124_0 hx124_1 hx125_0 hx125_1 hHeld ⊢; apply pu_ 0 (some 33) #[t_,f_,f_,f_,f_,f_,f_,f_,f_,f_,f_,f_,f_,f_,f_,f_,f_,f_,f_,f_,f_,f_,f_,f_,f_] HT_
                   apply pu_ 1 (some 34) #[t_,t_,f_,f_,f_,f_,f_,f_,f_,f_,f_,f_,f_,f_,f_,f_,f_,f_,f_,f_,f_,f_,f_,f_,f_] HT_
                   apply pu_ 2 (some 35) #[t_,t_,t_,f_,f_,f_,f_,f_,f_,f_,f_,f_,f_,f_,f_,f_,f_,f_,f_,f_,f_,f_,f_,f_,f_] HT_
                   apply pu_ 3 (some 36) #[t_,t_,t_,t_,f_,f_,f_,f_,f_,f_,f_,f_,f_,f_,f_,f_,f_,f_,f_,f_,f_,f_,f_,f_,f_] HT_
                   apply pu_ 5 (some 38) #[t_,t_,t_,t_,f_,t_,f_,f_,f_,f_,f_,f_,f_,f_,f_,f_,f_,f_,f_,f_,f_,f_,f_,f_,f_] HT_
                   apply pu_ 6 (some 39) #[t_,t_,t_,t_,f_,t_,t_,f_,f_,f_,f_,f_,f_,f_,f_,f_,f_,f_,f_,f_,f_,f_,f_,f_,f_] HT_
                   apply pu_ 7 (some 40) #[t_,t_,t_,t_,f_,t_,t_,t_,f_,f_,f_,f_,f_,f_,f_,f_,f_,f_,f_,f_,f_,f_,f_,f_,f_] HT_
                   apply pu_ 8 (some 41) #[t_,t_,t_,t_,f_,t_,t_,t_,t_,f_,f_,f_,f_,f_,f_,f_,f_,f_,f_,f_,f_,f_,f_,f_,f_] HT_
                   apply pu_ 9 (some 42) #[t_,t_,t_,t_,f_,t_,t_,t_,t_,t_,f_,f_,f_,f_,f_,f_,f_,f_,f_,f_,f_,f_,f_,f_,f_] HT_
                   refine take_ (i := 4) (N := some 37) (v := ?_) (a' := ?_) #[t_,t_,t_,t_,t_,t_,t_,t_,t_,t_,f_,f_,f_,f_,f_,f_,f_,f_,f_,f_,f_,f_,f_,f_,f_] rfl rfl (take_ofW HT_.out HW_.out z8_) (fun _ _ _ h => h) (Or.inl ⟨by rfl, ?_⟩) hHeld ?_ ?_; rotate_left
                   ·rintro w' ⟨s0, s1, s2, s3, s4, s5⟩; go_simp; with_reducible rfl
                   rotate_left
                   ·simp only [Act.put, List.setIfInBounds_toArray, List.set_cons_zero, List.set_cons_succ, i64_w, i32_w]; rfl
                   refine take_ (i := 10) (N := some 43) (v := ?_) (a' := ?_) #[t_,t_,t_,t_,t_,t_,t_,t_,t_,t_,t_,f_,f_,f_,f_,f_,f_,f_,f_,f_,f_,f_,f_,f_,f_] rfl rfl (take_ofW HT_.out HW_.out z8_) (fun _ _ _ h => h) (Or.inl ⟨by rfl, ?_⟩) hHeld ?_ ?_; rotate_left
                   ·rintro w' ⟨s0, s1, s2, s3, s4, s5⟩; go_simp; with_reducible rfl
                   rotate_left
                   ·simp only [Act.put, List.setIfInBounds_toArray, List.set_cons_zero, List.set_cons_succ, i64_w, i32_w]; rfl
                   apply pu_ 11 (some 44) #[t_,t_,t_,t_,t_,t_,t_,t_,t_,t_,t_,t_,f_,f_,f_,f_,f_,f_,f_,f_,f_,f_,f_,f_,f_] HT_
                   apply pu_ 12 (some 45) #[t_,t_,t_,t_,t_,t_,t_,t_,t_,t_,t_,t_,t_,f_,f_,f_,f_,f_,f_,f_,f_,f_,f_,f_,f_] HT_
                   apply pu_ 13 (some 46) #[t_,t_,t_,t_,t_,t_,t_,t_,t_,t_,t_,t_,t_,t_,f_,f_,f_,f_,f_,f_,f_,f_,f_,f_,f_] HT_
                   apply pu_ 16 (some 49) #[t_,t_,t_,t_,t_,t_,t_,t_,t_,t_,t_,t_,t_,t_,f_,f_,t_,f_,f_,f_,f_,f_,f_,f_,f_] HT_
                   apply pu_ 17 (some 50) #[t_,t_,t_,t_,t_,t_,t_,t_,t_,t_,t_,t_,t_,t_,f_,f_,t_,t_,f_,f_,f_,f_,f_,f_,f_] HT_
                   apply pu_ 18 (some 51) #[t_,t_,t_,t_,t_,t_,t_,t_,t_,t_,t_,t_,t_,t_,f_,f_,t_,t_,t_,f_,f_,f_,f_,f_,f_] HT_
                   apply pu_ 19 (some 52) #[t_,t_,t_,t_,t_,t_,t_,t_,t_,t_,t_,t_,t_,t_,f_,f_,t_,t_,t_,t_,f_,f_,f_,f_,f_] HT_
                   refine take_ (i := 14) (N := some 47) (v := ?_) (a' := ?_) #[t_,t_,t_,t_,t_,t_,t_,t_,t_,t_,t_,t_,t_,t_,t_,f_,t_,t_,t_,t_,f_,f_,f_,f_,f_] rfl rfl (take_ofW HT_.out HW_.out z8_) (fun _ _ _ h => h) (Or.inl ⟨by rfl, ?_⟩) hHeld ?_ ?_; rotate_left
                   ·rintro w' ⟨s0, s1, s2, s3, s4, s5⟩; go_simp; with_reducible rfl
                   rotate_left
                   ·simp only [Act.put, List.setIfInBounds_toArray, List.set_cons_zero, List.set_cons_succ, i64_w, i32_w]; rfl
                   apply pu_ 15 (some 48) #[t_,t_,t_,t_,t_,t_,t_,t_,t_,t_,t_,t_,t_,t_,t_,t_,t_,t_,t_,t_,f_,f_,f_,f_,f_] HT_
                   refine take_ (i := 20) (N := some 53) (v := ?_) (a' := ?_) #[t_,t_,t_,t_,t_,t_,t_,t_,t_,t_,t_,t_,t_,t_,t_,t_,t_,t_,t_,t_,t_,f_,f_,f_,f_] rfl rfl (take_ofW HT_.out HW_.out z8_) (fun _ _ _ h => h) (Or.inl ⟨by rfl, ?_⟩) hHeld ?_ ?_; rotate_left
                   ·rintro w' ⟨s0, s1, s2, s3, s4, s5⟩; go_simp; with_reducible rfl
                   rotate_left
                   ·simp only [Act.put, List.setIfInBounds_toArray, List.set_cons_zero, List.set_cons_succ, i64_w, i32_w]; rfl
                   refine one_ (i := 21) (N := some 54) #[t_,t_,t_,t_,t_,t_,t_,t_,t_,t_,t_,t_,t_,t_,t_,t_,t_,t_,t_,t_,t_,t_,f_,f_,f_] rfl rfl (one_of HT_.out z8_) (by decide) (fun K hK => ?_); refine goes_ Tryz.func57 z8_ rfl #[.agg #[.int .i8 ((rd_T60 l0 (ji18)).f0), .int .i16 ((rd_T60 l0 (ji18)).f1)]] (by rfl) rfl rfl (by (try simp only [List.map_toArray, List.map_cons, List.map_nil]); first | done | (simp only [hji18]; rfl) | (go_simp; done) | rfl | (simp only [List.length_drop, List.length_take]; rfl)) ?_; (with_reducible refine (spec_l01Ends.calls ((rd_T60 l0 (ji18)).f0) ((rd_T60 l0 (ji18)).f1) t126 _ A23.out).mono ?_); rintro e w28 ⟨rfl, hb⟩; refine ⟨_, rfl, ?_⟩; replace BK121 := Aside0.mk (blk_below (g := gb121) (o := .cells #[.int .i8 ((rd_T60 l0 x3_1).f0), .int .i16 ((rd_T60 l0 x3_1).f1)] 60 (0, 0)) z159_ hb); replace HB := Aside0.mk (below_step z63_ hb); (try clear hb); refine hK.out _ _ ⟨(blk_cell BK121.out 0).trans rfl, (blk_cell BK121.out 1).trans rfl, ((HB.out.cell (World.block_lt_of_cell? _ _ hw124_0)).trans hw124_0), ((HB.out.cell (World.block_lt_of_cell? _ _ hw124_1)).trans hw124_1), ((HB.out.cell (World.block_lt_of_cell? _ _ hw125_0)).trans hw125_0), ((HB.out.cell (World.block_lt_of_cell? _ _ hw125_1)).trans hw125_1)⟩ (fun hHeld => ?_); clear hK K; refine norm_ (a' := ?_) ?_ ?_; rotate_left
                   ·show Act.put _ (some 54) _ = _; simp only [Act.put, List.setIfInBounds_toArray, List.set_cons_zero, List.set_cons_succ, i64_w, i32_w]; rfl
                   apply pu_ 22 (some 55) #[t_,t_,t_,t_,t_,t_,t_,t_,t_,t_,t_,t_,t_,t_,t_,t_,t_,t_,t_,t_,t_,t_,t_,f_,f_] HT_
                   apply pu_ 23 (some 56) #[t_,t_,t_,t_,t_,t_,t_,t_,t_,t_,t_,t_,t_,t_,t_,t_,t_,t_,t_,t_,t_,t_,t_,t_,f_] HT_
                   apply pu_ 24 (some 57) #[t_,t_,t_,t_,t_,t_,t_,t_,t_,t_,t_,t_,t_,t_,t_,t_,t_,t_,t_,t_,t_,t_,t_,t_,t_] HT_
                   refine done_ (done_of HT_.out z8_) ?_; (try go_wp2); go_roundg kj4
                   case measure => have := HK1.out; have := HJ4.out; omega
                   case rel => exact ⟨(wrap64 (x3_1 + 1)), z9_, H', ⟨by have := HK1.out; have := HJ4.out; omega⟩, ⟨z63_⟩⟩
                ·rw [if_neg c20] at H; exact absurd H (by simp)
               ·rw [if_neg c19] at H; exact absurd H (by simp)
              ·rw [if_neg c17] at H; have c17b0 : decide (0 < x3_1) = false := decide_eq_false c17; clear c17; have H' := Aside0.mk H; clear H; (try go_wp2); replace BK121 := Aside0.mk (blk_drew BK121.out); replace HB := Aside0.mk (below_drew1 HB.out); refine start_ (n := 25) (S := fun w' => True) (ds := []) #[f_,f_,f_,f_,f_,f_,f_,f_,f_,f_,f_,f_,f_,f_,f_,f_,f_,f_,f_,f_,f_,f_,f_,f_,f_] z8_ rfl rfl trivial (fun hHeld => ?_); refine with_tabW spec_l01Notches.tab9 spec_l01Notches.bits9 (fun HT_ HW_ => ?_); generalize wc.drew = w29 at BK121 HB hHeld ⊢; apply pu_ 0 (some 33) #[t_,f_,f_,f_,f_,f_,f_,f_,f_,f_,f_,f_,f_,f_,f_,f_,f_,f_,f_,f_,f_,f_,f_,f_,f_] HT_
               apply pu_ 1 (some 34) #[t_,t_,f_,f_,f_,f_,f_,f_,f_,f_,f_,f_,f_,f_,f_,f_,f_,f_,f_,f_,f_,f_,f_,f_,f_] HT_
               apply pu_ 2 (some 35) #[t_,t_,t_,f_,f_,f_,f_,f_,f_,f_,f_,f_,f_,f_,f_,f_,f_,f_,f_,f_,f_,f_,f_,f_,f_] HT_
               refine pure_ (i := 3) (N := some 36) (v := undef) (a' := ?_) #[t_,t_,t_,t_,f_,f_,f_,f_,f_,f_,f_,f_,f_,f_,f_,f_,f_,f_,f_,f_,f_,f_,f_,f_,f_] rfl rfl (any_of HT_.out z8_) (fun _ _ _ h => h) (Or.inr ⟨by rfl, rfl⟩) ?_ ?_; rotate_left
               ·simp only [Act.put, List.setIfInBounds_toArray, List.set_cons_zero, List.set_cons_succ, i64_w, i32_w]; rfl
               refine pure_ (i := 4) (N := some 37) (v := undef) (a' := ?_) #[t_,t_,t_,t_,t_,f_,f_,f_,f_,f_,f_,f_,f_,f_,f_,f_,f_,f_,f_,f_,f_,f_,f_,f_,f_] rfl rfl (any_of HT_.out z8_) (fun _ _ _ h => h) (Or.inr ⟨by rfl, rfl⟩) ?_ ?_; rotate_left
               ·simp only [Act.put, List.setIfInBounds_toArray, List.set_cons_zero, List.set_cons_succ, i64_w, i32_w]; rfl
               refine pure_ (i := 5) (N := some 38) (v := undef) (a' := ?_) #[t_,t_,t_,t_,t_,t_,f_,f_,f_,f_,f_,f_,f_,f_,f_,f_,f_,f_,f_,f_,f_,f_,f_,f_,f_] rfl rfl (any_of HT_.out z8_) (fun _ _ _ h => h) (Or.inr ⟨by rfl, rfl⟩) ?_ ?_; rotate_left
               ·simp only [Act.put, List.setIfInBounds_toArray, List.set_cons_zero, List.set_cons_succ, i64_w, i32_w]; rfl
               refine pure_ (i := 6) (N := some 39) (v := undef) (a' := ?_) #[t_,t_,t_,t_,t_,t_,t_,f_,f_,f_,f_,f_,f_,f_,f_,f_,f_,f_,f_,f_,f_,f_,f_,f_,f_] rfl rfl (any_of HT_.out z8_) (fun _ _ _ h => h) (Or.inr ⟨by rfl, rfl⟩) ?_ ?_; rotate_left
               ·simp only [Act.put, List.setIfInBounds_toArray, List.set_cons_zero, List.set_cons_succ, i64_w, i32_w]; rfl
               refine pure_ (i := 7) (N := some 40) (v := undef) (a' := ?_) #[t_,t_,t_,t_,t_,t_,t_,t_,f_,f_,f_,f_,f_,f_,f_,f_,f_,f_,f_,f_,f_,f_,f_,f_,f_] rfl rfl (any_of HT_.out z8_) (fun _ _ _ h => h) (Or.inr ⟨by rfl, rfl⟩) ?_ ?_; rotate_left
               ·simp only [Act.put, List.setIfInBounds_toArray, List.set_cons_zero, List.set_cons_succ, i64_w, i32_w]; rfl
               refine pure_ (i := 8) (N := some 41) (v := undef) (a' := ?_) #[t_,t_,t_,t_,t_,t_,t_,t_,t_,f_,f_,f_,f_,f_,f_,f_,f_,f_,f_,f_,f_,f_,f_,f_,f_] rfl rfl (any_of HT_.out z8_) (fun _ _ _ h => h) (Or.inr ⟨by rfl, rfl⟩) ?_ ?_; rotate_left
               ·simp only [Act.put, List.setIfInBounds_toArray, List.set_cons_zero, List.set_cons_succ, i64_w, i32_w]; rfl
               refine pure_ (i := 9) (N := some 42) (v := undef) (a' := ?_) #[t_,t_,t_,t_,t_,t_,t_,t_,t_,t_,f_,f_,f_,f_,f_,f_,f_,f_,f_,f_,f_,f_,f_,f_,f_] rfl rfl (any_of HT_.out z8_) (fun _ _ _ h => h) (Or.inr ⟨by rfl, rfl⟩) ?_ ?_; rotate_left
               ·simp only [Act.put, List.setIfInBounds_toArray, List.set_cons_zero, List.set_cons_succ, i64_w, i32_w]; rfl
               refine pure_ (i := 10) (N := some 43) (v := undef) (a' := ?_) #[t_,t_,t_,t_,t_,t_,t_,t_,t_,t_,t_,f_,f_,f_,f_,f_,f_,f_,f_,f_,f_,f_,f_,f_,f_] rfl rfl (any_of HT_.out z8_) (fun _ _ _ h => h) (Or.inr ⟨by rfl, rfl⟩) ?_ ?_; rotate_left
               ·simp only [Act.put, List.setIfInBounds_toArray, List.set_cons_zero, List.set_cons_succ, i64_w, i32_w]; rfl
               refine pure_ (i := 11) (N := some 44) (v := undef) (a' := ?_) #[t_,t_,t_,t_,t_,t_,t_,t_,t_,t_,t_,t_,f_,f_,f_,f_,f_,f_,f_,f_,f_,f_,f_,f_,f_] rfl rfl (any_of HT_.out z8_) (fun _ _ _ h => h) (Or.inr ⟨by rfl, rfl⟩) ?_ ?_; rotate_left
               ·simp only [Act.put, List.setIfInBounds_toArray, List.set_cons_zero, List.set_cons_succ, i64_w, i32_w]; rfl
               refine pure_ (i := 12) (N := some 45) (v := undef) (a' := ?_) #[t_,t_,t_,t_,t_,t_,t_,t_,t_,t_,t_,t_,t_,f_,f_,f_,f_,f_,f_,f_,f_,f_,f_,f_,f_] rfl rfl (any_of HT_.out z8_) (fun _ _ _ h => h) (Or.inr ⟨by rfl, rfl⟩) ?_ ?_; rotate_left
               ·simp only [Act.put, List.setIfInBounds_toArray, List.set_cons_zero, List.set_cons_succ, i64_w, i32_w]; rfl
               refine pure_ (i := 13) (N := some 46) (v := undef) (a' := ?_) #[t_,t_,t_,t_,t_,t_,t_,t_,t_,t_,t_,t_,t_,t_,f_,f_,f_,f_,f_,f_,f_,f_,f_,f_,f_] rfl rfl (any_of HT_.out z8_) (fun _ _ _ h => h) (Or.inr ⟨by rfl, rfl⟩) ?_ ?_; rotate_left
               ·simp only [Act.put, List.setIfInBounds_toArray, List.set_cons_zero, List.set_cons_succ, i64_w, i32_w]; rfl
               refine pure_ (i := 14) (N := some 47) (v := undef) (a' := ?_) #[t_,t_,t_,t_,t_,t_,t_,t_,t_,t_,t_,t_,t_,t_,t_,f_,f_,f_,f_,f_,f_,f_,f_,f_,f_] rfl rfl (any_of HT_.out z8_) (fun _ _ _ h => h) (Or.inr ⟨by rfl, rfl⟩) ?_ ?_; rotate_left
               ·simp only [Act.put, List.setIfInBounds_toArray, List.set_cons_zero, List.set_cons_succ, i64_w, i32_w]; rfl
               refine pure_ (i := 15) (N := some 48) (v := undef) (a' := ?_) #[t_,t_,t_,t_,t_,t_,t_,t_,t_,t_,t_,t_,t_,t_,t_,t_,f_,f_,f_,f_,f_,f_,f_,f_,f_] rfl rfl (any_of HT_.out z8_) (fun _ _ _ h => h) (Or.inr ⟨by rfl, rfl⟩) ?_ ?_; rotate_left
               ·simp only [Act.put, List.setIfInBounds_toArray, List.set_cons_zero, List.set_cons_succ, i64_w, i32_w]; rfl
               refine pure_ (i := 16) (N := some 49) (v := undef) (a' := ?_) #[t_,t_,t_,t_,t_,t_,t_,t_,t_,t_,t_,t_,t_,t_,t_,t_,t_,f_,f_,f_,f_,f_,f_,f_,f_] rfl rfl (any_of HT_.out z8_) (fun _ _ _ h => h) (Or.inr ⟨by rfl, rfl⟩) ?_ ?_; rotate_left
               ·simp only [Act.put, List.setIfInBounds_toArray, List.set_cons_zero, List.set_cons_succ, i64_w, i32_w]; rfl
               refine pure_ (i := 17) (N := some 50) (v := undef) (a' := ?_) #[t_,t_,t_,t_,t_,t_,t_,t_,t_,t_,t_,t_,t_,t_,t_,t_,t_,t_,f_,f_,f_,f_,f_,f_,f_] rfl rfl (any_of HT_.out z8_) (fun _ _ _ h => h) (Or.inr ⟨by rfl, rfl⟩) ?_ ?_; rotate_left
               ·simp only [Act.put, List.setIfInBounds_toArray, List.set_cons_zero, List.set_cons_succ, i64_w, i32_w]; rfl
               refine pure_ (i := 18) (N := some 51) (v := undef) (a' := ?_) #[t_,t_,t_,t_,t_,t_,t_,t_,t_,t_,t_,t_,t_,t_,t_,t_,t_,t_,t_,f_,f_,f_,f_,f_,f_] rfl rfl (any_of HT_.out z8_) (fun _ _ _ h => h) (Or.inr ⟨by rfl, rfl⟩) ?_ ?_; rotate_left
               ·simp only [Act.put, List.setIfInBounds_toArray, List.set_cons_zero, List.set_cons_succ, i64_w, i32_w]; rfl
               refine pure_ (i := 19) (N := some 52) (v := undef) (a' := ?_) #[t_,t_,t_,t_,t_,t_,t_,t_,t_,t_,t_,t_,t_,t_,t_,t_,t_,t_,t_,t_,f_,f_,f_,f_,f_] rfl rfl (any_of HT_.out z8_) (fun _ _ _ h => h) (Or.inr ⟨by rfl, rfl⟩) ?_ ?_; rotate_left
               ·simp only [Act.put, List.setIfInBounds_toArray, List.set_cons_zero, List.set_cons_succ, i64_w, i32_w]; rfl
               refine pure_ (i := 20) (N := some 53) (v := undef) (a' := ?_) #[t_,t_,t_,t_,t_,t_,t_,t_,t_,t_,t_,t_,t_,t_,t_,t_,t_,t_,t_,t_,t_,f_,f_,f_,f_] rfl rfl (any_of HT_.out z8_) (fun _ _ _ h => h) (Or.inr ⟨by rfl, rfl⟩) ?_ ?_; rotate_left
               ·simp only [Act.put, List.setIfInBounds_toArray, List.set_cons_zero, List.set_cons_succ, i64_w, i32_w]; rfl
               refine pure_ (i := 21) (N := some 54) (v := undef) (a' := ?_) #[t_,t_,t_,t_,t_,t_,t_,t_,t_,t_,t_,t_,t_,t_,t_,t_,t_,t_,t_,t_,t_,t_,f_,f_,f_] rfl rfl (any_of HT_.out z8_) (fun _ _ _ h => h) (Or.inr ⟨by rfl, rfl⟩) ?_ ?_; rotate_left
               ·simp only [Act.put, List.setIfInBounds_toArray, List.set_cons_zero, List.set_cons_succ, i64_w, i32_w]; rfl
               refine pure_ (i := 22) (N := some 55) (v := undef) (a' := ?_) #[t_,t_,t_,t_,t_,t_,t_,t_,t_,t_,t_,t_,t_,t_,t_,t_,t_,t_,t_,t_,t_,t_,t_,f_,f_] rfl rfl (any_of HT_.out z8_) (fun _ _ _ h => h) (Or.inr ⟨by rfl, rfl⟩) ?_ ?_; rotate_left
               ·simp only [Act.put, List.setIfInBounds_toArray, List.set_cons_zero, List.set_cons_succ, i64_w, i32_w]; rfl
               refine pure_ (i := 23) (N := some 56) (v := undef) (a' := ?_) #[t_,t_,t_,t_,t_,t_,t_,t_,t_,t_,t_,t_,t_,t_,t_,t_,t_,t_,t_,t_,t_,t_,t_,t_,f_] rfl rfl (any_of HT_.out z8_) (fun _ _ _ h => h) (Or.inr ⟨by rfl, rfl⟩) ?_ ?_; rotate_left
               ·simp only [Act.put, List.setIfInBounds_toArray, List.set_cons_zero, List.set_cons_succ, i64_w, i32_w]; rfl
               apply pu_ 24 (some 57) #[t_,t_,t_,t_,t_,t_,t_,t_,t_,t_,t_,t_,t_,t_,t_,t_,t_,t_,t_,t_,t_,t_,t_,t_,t_] HT_
               refine done_ (done_of HT_.out z8_) ?_; (try go_wp2); go_roundg kj4
               case measure => have := HK1.out; have := HJ4.out; omega
               case rel => exact ⟨(wrap64 (x3_1 + 1)), z9_, H', ⟨by have := HK1.out; have := HJ4.out; omega⟩, ⟨z63_⟩⟩
        ·rw [if_neg c4] at H; exact absurd H (by simp)
       ·rw [if_neg c3] at H; have c3b0 : decide (x3_1 < (l0.length : Int)) = false := decide_eq_false c3; clear c3; obtain rfl := Option.some.inj H; go_wp2; go_ret; exact ⟨z6_, z0_⟩

end Go.Proofs.YtcblnnfodpglaaaGreatDoor.MNotched
