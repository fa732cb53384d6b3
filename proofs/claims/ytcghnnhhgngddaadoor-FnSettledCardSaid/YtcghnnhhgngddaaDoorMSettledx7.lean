-- by a program of this session, for this claim
import Derived.Test.YtcghnnhhgngddaaDoorMSettledx0
import Derived.Test.YtcghnnhhgngddaaDoorMSettledx6
namespace Go.Proofs.YtcghnnhhgngddaaDoor.MSettled
open Go.RowKit Go.Proofs.YtcghnnhhgngddaaDoorW.PrintWords Go.Proofs.YtcghnnhhgngddaaDoorW.PrintLast Go.Proofs.YtcghnnhhgngddaaDoorW.PrintMore
attribute [local go_sem] max2_int min2_int max_two min_two max_three min_three max_four min_four   -- for this text's walks alone
set_option linter.unusedVariables false
set_option linter.unusedSimpArgs false

/-! ### spec_l02Settle: function 28 -/
mutual
def spec_l02Settle.l0 : Nat → List (S55) → List Int → Option ((List (S55)))
  | 0, _, _ => none
  | k + 1, x1, x5 => spec_l02Settle.l1 k x1 x5 0 0 1
def spec_l02Settle.l1 : Nat → List (S55) → List Int → Int → Int → Int → Option ((List (S55)))
  | 0, _, _, _, _, _ => none
  | k + 1, x1, x5, x6, x7, x8 => if x8 < (x5.length : Int) then (if 0 ≤ x8 then (if 0 ≤ x6 then (if x6 < (x5.length : Int) then (if (rd x5 x8) < (rd x5 x6) then (if 0 ≤ x7 then (if x7 < (x5.length : Int) then (if (rd x5 x8) > (rd x5 x7) then (spec_l02Settle.l1 k x1 x5 x8 x8 (wrap64 (x8 + 1))) else (spec_l02Settle.l1 k x1 x5 x8 x7 (wrap64 (x8 + 1)))) else (none)) else (none)) else (if 0 ≤ x7 then (if x7 < (x5.length : Int) then (if (rd x5 x8) > (rd x5 x7) then (spec_l02Settle.l1 k x1 x5 x6 x8 (wrap64 (x8 + 1))) else (spec_l02Settle.l1 k x1 x5 x6 x7 (wrap64 (x8 + 1)))) else (none)) else (none))) else (none)) else (none)) else (none)) else (if 0 ≤ x6 then (if x6 < (x5.length : Int) then (if 0 ≤ x7 then (if x7 < (x5.length : Int) then ((spec_l00Min.f (wrap64 (-(rd x5 x6))) (rd x5 x7)).bind fun t200 => (if t200 = 0 then (some x1) else ((some (x5.set (x6 : Int).toNat (wrap64 ((rd x5 x6) + t200)) : List Int)).bind fun y202 => (if x1.length < 5864062014805 then (spec_l02Settle.l0 k (x1 ++ [(⟨x6, x7, t200⟩ : S55)]) (y202.set (x7 : Int).toNat (wrap64 ((rd y202 x7) - t200)))) else (none))))) else (none)) else (none)) else (none)) else (none))
end
def spec_l02Settle.f (k : Nat) (l0 : List Int) (l1 : List (S55)) : Option ((List (S55))) := (some (([] : List Int) : List Int)).bind fun y192 => (if y192.length + l0.length < 17592186044416 then (spec_l02Settle.l0 k l1 (y192 ++ l0)) else (none))
theorem spec_l02Settle.mono_l : ∀ k, (∀ y0 y1, LeO (spec_l02Settle.l0 k y0 y1) (spec_l02Settle.l0 (k + 1) y0 y1)) ∧ (∀ y0 y1 y2 y3 y4, LeO (spec_l02Settle.l1 k y0 y1 y2 y3 y4) (spec_l02Settle.l1 (k + 1) y0 y1 y2 y3 y4))
  | 0 => ⟨fun _ _ r h => by simp [spec_l02Settle.l0] at h, fun _ _ _ _ _ r h => by simp [spec_l02Settle.l1] at h⟩
  | k + 1 => by
    obtain ⟨ih0, ih1⟩ := spec_l02Settle.mono_l k
    refine ⟨?_, ?_⟩
    · intro y0 y1
      unfold spec_l02Settle.l0
      with_reducible repeat' first | exact ih0 _ _ | exact ih1 _ _ _ _ _ | exact LeO.refl _ | exact LeO.none _ | refine LeO.ite ?_ ?_ | refine LeO.bind ?_ (fun _ => ?_)
    · intro y0 y1 y2 y3 y4
      unfold spec_l02Settle.l1
      with_reducible repeat' first | exact ih0 _ _ | exact ih1 _ _ _ _ _ | exact LeO.refl _ | exact LeO.none _ | refine LeO.ite ?_ ?_ | refine LeO.bind ?_ (fun _ => ?_)
theorem spec_l02Settle.mono : ∀ a0 a1 k, LeO (spec_l02Settle.f k a0 a1) (spec_l02Settle.f (k + 1) a0 a1) := by
  intro a0 a1 k; obtain ⟨ih0, ih1⟩ := spec_l02Settle.mono_l k; unfold spec_l02Settle.f
  with_reducible repeat' first | exact ih0 _ _ | exact ih1 _ _ _ _ _ | exact LeO.refl _ | exact LeO.none _ | refine LeO.ite ?_ ?_ | refine LeO.bind ?_ (fun _ => ?_)
def spec_l02Settle.T7 : Bool × List (List Nat × List Nat) := (true, [([], []), ([], []), ([0, 1], [0, 1]), ([2], [2]), ([], []), ([], []), ([4, 5], [4, 5]), ([6], [6]), ([3, 7], [3, 7])])
def spec_l02Settle.B7 : List Nat := [0, 0, 3, 7, 0, 0, 48, 112, 255]
theorem spec_l02Settle.tab7 : rtab .any (opsOf Tryd.f28 7) = spec_l02Settle.T7 := by kernel_rfl
theorem spec_l02Settle.bits7 : waitsOk spec_l02Settle.T7.2 spec_l02Settle.B7 = true := by kernel_rfl
def spec_l02Settle.T9 : Bool × List (List Nat × List Nat) := (true, [([], []), ([], []), ([0, 1], [0, 1]), ([2], [2]), ([], []), ([], []), ([4, 5], [4, 5]), ([6], [6]), ([3, 7], [3, 7])])
def spec_l02Settle.B9 : List Nat := [0, 0, 3, 7, 0, 0, 48, 112, 255]
theorem spec_l02Settle.tab9 : rtab .any (opsOf Tryd.f28 9) = spec_l02Settle.T9 := by kernel_rfl
theorem spec_l02Settle.bits9 : waitsOk spec_l02Settle.T9.2 spec_l02Settle.B9 = true := by kernel_rfl
def spec_l02Settle.T11 : Bool × List (List Nat × List Nat) := (true, [([], []), ([], []), ([0, 1], [0, 1]), ([2], [2]), ([3], [3]), ([], []), ([], []), ([5, 6], [5, 6]), ([7], [7]), ([4, 8], [4, 8]), ([9, 9, 0, 1, 2, 3, 4, 5, 6, 7, 8, 9], [9])])
def spec_l02Settle.B11 : List Nat := [0, 0, 3, 7, 15, 0, 0, 96, 224, 511, 1023]
theorem spec_l02Settle.tab11 : rtab .any (opsOf Tryd.f28 11) = spec_l02Settle.T11 := by kernel_rfl
theorem spec_l02Settle.bits11 : waitsOk spec_l02Settle.T11.2 spec_l02Settle.B11 = true := by kernel_rfl
set_option maxHeartbeats 8000000 in
set_option maxRecDepth 100000 in
theorem spec_l02Settle.calls (k : Nat) (A0 : Option Addr) (c0 : Nat) (l0 : List Int) (P1_ : Nat → Prop) (u9000_ : Value) (l1 : List (S55)) (r : List (S55)) (w0 w : World) (hB : Below w0.heap.size w0 w) (hr0 : ∀ W_, Kept w W_ (fun k_ => P1_ k_) → Kd.C (Kd.int .i64) W_ A0 l0.length l0) (hc0 : l0.length ≤ c0) (ho1 : Kd.R k55 55 w w0.heap.size P1_ u9000_ l1) (h : spec_l02Settle.f k l0 l1 = some r) :
    Calls Tryd.prog 28 #[.slice A0 l0.length c0, u9000_] w fun e w' => ∃ v0_ : Value, e = .returned (v0_) ∧ Kd.R k55 55 w' w0.heap.size (fun k_ => (P1_ k_ ∨ w.heap.size ≤ k_)) v0_ r ∧ Below w0.heap.size w0 w' ∧ Kept w w' (fun k_ => P1_ k_) := by
  have hu55 := Tryd.underlying55; have HR0 := Aside0.mk hr0; have HC0 := Aside0.mk hc0; clear hr0 hc0; have HO1 := Aside0.mk (show Kd.R k55 55 w w0.heap.size (fun k_ => (P1_ k_ ∨ w.heap.size ≤ k_)) u9000_ l1 from Kd.R_mono ho1 (fun k_ hk => (.inl hk))); have HK := Aside0.mk (Kept.refl w (fun k_ => P1_ k_)); have HW0 := Aside0.mk hB.size; have HB := Aside0.mk hB; clear hB; have H : ((some (([] : List Int) : List Int)).bind fun y192 => (if y192.length + l0.length < 17592186044416 then (spec_l02Settle.l0 k l1 (y192 ++ l0)) else (none))) = some r := h; clear h; obtain ⟨y192, hy192⟩ : ∃ y_ : List Int, y_ = (([] : List Int)) := ⟨_, rfl⟩; (replace H : (if y192.length + l0.length < 17592186044416 then (spec_l02Settle.l0 k l1 (y192 ++ l0)) else (none)) = some r := by first | (rw [hy192]; with_reducible exact H) | (have H2_ := (Option.bind_some _ _).symm.trans H; rw [hy192]; with_reducible exact H2_) | (have H2_ := (Option.bind_some _ _).symm.trans H; with_reducible exact H2_) | with_reducible exact H | (rw [hy192]; exact H) | exact H); have Ny192 := Aside0.mk hy192; clear hy192; by_cases c3 : y192.length + l0.length < 17592186044416
  · rw [if_pos c3] at H; have LMc3 := Aside0.mk c3; clear c3; obtain ⟨y195, hy195⟩ : ∃ y_ : List Int, y_ = (y192 ++ l0) := ⟨_, rfl⟩; (replace H : (spec_l02Settle.l0 k l1 y195) = some r := by first | (rw [hy195]; with_reducible exact H) | (have H2_ := (Option.bind_some _ _).symm.trans H; rw [hy195]; with_reducible exact H2_) | (have H2_ := (Option.bind_some _ _).symm.trans H; with_reducible exact H2_) | with_reducible exact H | (rw [hy195]; exact H) | exact H); have Ny195 := Aside0.mk hy195; clear hy195; have H' := Aside0.mk H; clear H; go_enter Tryd.func28, Tryd.ntmps28; go_wp2_with (first | ((with_reducible refine gate_dst (N := 10) rfl ?_); refine Kd.R_lit (Kd.int .i64) _ 2 ?hg (N := 10) ?hd (xs := ([] : List Int)) (inner := []) (ok := fun _ => True) (okp := fun _ => True) ?hr ?hp (fun _ hk => hk) trivial (Below.refl _ _) (Nat.le_refl _) (by simp) ?_; (case hd => rfl); (case hg => rfl); (case hr => first | (go_simp; done) | (go_simp; rfl)); (case hp => exact (Reps.none _ _)); intro v193 w4 ho5 hb hg_ hnew_; clear hg_ hnew_; (first | rw [← Ny192.out] at ho5 | (simp only [Int.reduceToNat] at ho5; rw [← Ny192.out] at ho5)); replace HO1 := Aside0.mk (Kd.R_below z59_ hb); have HO194 := Aside0.mk (Kd.R_lower (Kd.R_newM (M := fun k_ => (P1_ k_ ∨ w.heap.size ≤ k_)) ho5 (by first | exact HK.out.1 | exact (show Kept w _ (fun k_ => P1_ k_) from z14_).1) (fun k_ h_ => .inr h_)) (below_size z0_)); replace HK := Aside0.mk (Kept.below (S := (fun k_ => P1_ k_)) z14_ hb); replace HB := Aside0.mk (below_step z0_ hb); clear hb ho5) | ((with_reducible refine gate_builtin (b := .append) (xs := #[.tmp 10, .tmp 11]) rfl ?_); at_builtin; refine Kd.R_append_rows (Kd.int .i64) (w0 := w0) w0.heap.size rfl (.tmp 10) (.tmp 11) 22 2 (.int .i64 0) 8 rfl Tryd.underlying22 info2 rfl (by decide) (by omega) v193 y192 l0 _ _ _ (fun k_ => (P1_ k_ ∨ w.heap.size ≤ k_)) (fun _ => False) rfl rfl ?aO ?aR (fun _ _ h => h) (fun _ h => h.elim) ?aF ?aB ?aS ?aL ?_; (case aR => exact Kd.C_kept_now HR0.out z14_); (case aB => exact z0_); (case aF => exact (fun k_ hk => (.inr (Nat.le_trans (by first | exact HK.out.1 | exact (show Kept w _ (fun k_ => P1_ k_) from z14_).1) hk)))); (case aO => exact (by (with_reducible repeat (first | apply Kd.R_alloc | apply Kd.R_drewN | apply Kd.R_drew)); exact Kd.R_mono HO194.out (fun _ hk => hk.1))); (case aS => exact (below_size z0_)); (case aL => have := LMc3.out; omega); intro v196 w6 ho hb hg hat; rw [← Ny195.out] at ho; replace HO1 := Aside0.mk (Kd.R_over' z59_ (Kd.R_typed (by (with_reducible repeat (first | apply Kd.R_alloc | apply Kd.R_drewN | apply Kd.R_drew)); exact HO194.out)) (by decide) hg); replace HB := Aside0.mk (hb); replace HK := Aside0.mk (Kept.of_grown (S := (fun k_ => P1_ k_)) hg z14_ (fun k_ e_ => (HO194.out.1 k_ e_).1)); have HO197 := Aside0.mk (ho); clear HO194; clear ho hb hg hat)); go_loopg [1] k (fun kq v1 w' => ∃ (x1_1 : List (S55)) (x5_1 : List Int), Aside0 (spec_l02Settle.l0 kq x1_1 x5_1 = some r) ∧ Aside0 (kq ≤ k) ∧ Aside0 (Kd.R k55 55 w' w0.heap.size (fun k_ => (P1_ k_ ∨ w.heap.size ≤ k_)) v1 x1_1) ∧ Aside0 (Kd.R (Kd.int .i64) 2 w' w0.heap.size (fun k_ => (P1_ k_ ∨ w.heap.size ≤ k_)) v196 x5_1) ∧ Aside0 (Kept w w' (fun k_ => P1_ k_)) ∧ Aside0 (Below w0.heap.size w0 w'))
    case atStart => exact ⟨(l1), (y195), H', ⟨Nat.le_refl _⟩, ⟨z59_⟩, ⟨by (with_reducible repeat (first | apply Kd.R_alloc | apply Kd.R_drewN | apply Kd.R_drew)); exact HO197.out⟩, ⟨z14_⟩, ⟨z0_⟩⟩
    case round =>
      clear H'; (try clear c2); (try clear p2); (try clear c3); obtain ⟨x1_1, x5_1, HA, HK1, HO_1, HO_5, HK, HB⟩ := hrel
      cases gk with
      | zero => exact absurd HA.out (by simp [spec_l02Settle.l0])
      | succ k1 =>
        have H := HA.out; clear HA; simp only [spec_l02Settle.l0] at H; have H' := Aside0.mk H; clear H; go_wp2; go_loopg [6, 7, 8] k1 (fun kq v6 v7 v8 w' => ∃ (x6_2 : Int) (x7_2 : Int) (x8_2 : Int), v6 = .int .i64 x6_2 ∧ v7 = .int .i64 x7_2 ∧ v8 = .int .i64 x8_2 ∧ Aside0 (spec_l02Settle.l1 kq x1_1 x5_1 x6_2 x7_2 x8_2 = some r) ∧ Aside0 (kq ≤ k1) ∧ Aside0 (Kd.R k55 55 w' w0.heap.size (fun k_ => (P1_ k_ ∨ w.heap.size ≤ k_)) u1 x1_1) ∧ Aside0 (Kd.R (Kd.int .i64) 2 w' w0.heap.size (fun k_ => (P1_ k_ ∨ w.heap.size ≤ k_)) v196 x5_1) ∧ Aside0 (Kept w w' (fun k_ => P1_ k_)) ∧ Aside0 (Below w0.heap.size w0 w'))
        case atStart => exact ⟨(0), (0), (1), z3_, z3_, z3_, H', ⟨Nat.le_refl _⟩, ⟨z27_⟩, ⟨z16_⟩, ⟨z14_⟩, ⟨z0_⟩⟩
        case round =>
          clear H'; (try clear c2); (try clear p2); (try clear c3); (try clear p2); obtain ⟨x6_2, x7_2, x8_2, rfl, rfl, rfl, HA, HK2, HO_1, HO_5, HK, HB⟩ := hrel
          cases gk with
          | zero => exact absurd HA.out (by simp [spec_l02Settle.l1])
          | succ k2 =>
            have H := HA.out; clear HA; simp only [spec_l02Settle.l1] at H; by_cases c7 : x8_2 < (x5_1.length : Int)
            · rw [if_pos c7] at H; have c7b0 : decide (x8_2 < (x5_1.length : Int)) = true := decide_eq_true c7; clear c7; by_cases c8 : 0 ≤ x8_2
              · rw [if_pos c8] at H; have c8b0 : decide (0 ≤ x8_2) = true := decide_eq_true c8; clear c8; by_cases c9 : 0 ≤ x6_2
                · rw [if_pos c9] at H; have c9b0 : decide (0 ≤ x6_2) = true := decide_eq_true c9; clear c9; by_cases c10 : x6_2 < (x5_1.length : Int)
                  · rw [if_pos c10] at H; have c10b0 : decide (x6_2 < (x5_1.length : Int)) = true := decide_eq_true c10; clear c10; by_cases c11 : (rd x5_1 x8_2) < (rd x5_1 x6_2)
                    · rw [if_pos c11] at H; have c11b0 : decide ((rd x5_1 x8_2) < (rd x5_1 x6_2)) = true := decide_eq_true c11; clear c11; by_cases c12 : 0 ≤ x7_2
                      · rw [if_pos c12] at H; have c12b0 : decide (0 ≤ x7_2) = true := decide_eq_true c12; clear c12; by_cases c13 : x7_2 < (x5_1.length : Int)
                        · rw [if_pos c13] at H; have c13b0 : decide (x7_2 < (x5_1.length : Int)) = true := decide_eq_true c13; clear c13; by_cases c14 : (rd x5_1 x8_2) > (rd x5_1 x7_2)
                          · rw [if_pos c14] at H; have c14b0 : decide ((rd x5_1 x7_2) < (rd x5_1 x8_2)) = true := decide_eq_true c14; clear c14; have H' := Aside0.mk H; clear H; obtain ⟨Ao15, co15, eo15⟩ := Kd.R_slice HO_5.out; subst eo15; (try go_wp2); replace HO_1 := Aside0.mk (Kd.R_drew HO_1.out); replace HO_5 := Aside0.mk (Kd.R_drew HO_5.out); replace HK := Aside0.mk (Kept.drew HK.out); replace HB := Aside0.mk (below_drew1 HB.out); have p208 : 0 ≤ (x8_2 : Int) := of_decide_eq_true z1_; have q208 : x8_2 < (x5_1.length : Int) := of_decide_eq_true z1_; obtain ⟨ad208, e208, hx208_0⟩ := Kd.at_int (Kd.R_reads' HO_5.out).2.2 x8_2 p208 q208; cases e208; replace p208 := eq_true p208; replace q208 := eq_true q208; have p209 : 0 ≤ (x6_2 : Int) := of_decide_eq_true z1_; have q209 : x6_2 < (x5_1.length : Int) := of_decide_eq_true z1_; obtain ⟨ad209, e209, hx209_0⟩ := Kd.at_int (Kd.R_reads' HO_5.out).2.2 x6_2 p209 q209; obtain rfl : ad208 = ad209 := (by injection e209); replace p209 := eq_true p209; replace q209 := eq_true q209; refine start_ (n := 9) (S := fun w' => w'.cell? (ad208.add (x8_2).toNat) = some (.int .i64 (rd x5_1 x8_2)) ∧ w'.cell? (ad208.add (x6_2).toNat) = some (.int .i64 (rd x5_1 x6_2))) (ds := []) #[f_,f_,f_,f_,f_,f_,f_,f_,f_] z7_ rfl rfl ⟨hx208_0, hx209_0⟩ (fun hHeld => ?_); refine with_tabW spec_l02Settle.tab7 spec_l02Settle.bits7 (fun HT_ HW_ => ?_); generalize wr.drew = w16 at HO_1 HO_5 HK HB hx208_0 hx209_0 hHeld ⊢; refine pure_ (i := 0) (N := some 19) (v := ?_) (a' := ?_) #[t_,f_,f_,f_,f_,f_,f_,f_,f_] rfl rfl (any_of HT_.out z7_) (fun _ _ _ h => h) (Or.inl ⟨by rfl, ?_⟩) ?_ ?_; rotate_left
                            · intro w'; go_simp; with_reducible rfl
                            rotate_left
                            · simp only [Act.put, List.setIfInBounds_toArray, List.set_cons_zero, List.set_cons_succ, i64_w, i32_w]; rfl
                            refine pure_ (i := 1) (N := some 20) (v := ?_) (a' := ?_) #[t_,t_,f_,f_,f_,f_,f_,f_,f_] rfl rfl (any_of HT_.out z7_) (fun _ _ _ h => h) (Or.inl ⟨by rfl, ?_⟩) ?_ ?_; rotate_left
                            · intro w'; go_simp; with_reducible rfl
                            rotate_left
                            · simp only [Act.put, List.setIfInBounds_toArray, List.set_cons_zero, List.set_cons_succ, i64_w, i32_w]; rfl
                            refine pure_ (i := 2) (N := some 21) (v := ?_) (a' := ?_) #[t_,t_,t_,f_,f_,f_,f_,f_,f_] rfl rfl (any_of HT_.out z7_) (fun _ _ _ h => h) (Or.inl ⟨by rfl, ?_⟩) ?_ ?_; rotate_left
                            · intro w'; go_simp; with_reducible rfl
                            rotate_left
                            · simp only [Act.put, List.setIfInBounds_toArray, List.set_cons_zero, List.set_cons_succ, i64_w, i32_w]; rfl
                            refine pure_ (i := 4) (N := some 23) (v := ?_) (a' := ?_) #[t_,t_,t_,f_,t_,f_,f_,f_,f_] rfl rfl (any_of HT_.out z7_) (fun _ _ _ h => h) (Or.inl ⟨by rfl, ?_⟩) ?_ ?_; rotate_left
                            · intro w'; go_simp; with_reducible rfl
                            rotate_left
                            · simp only [Act.put, List.setIfInBounds_toArray, List.set_cons_zero, List.set_cons_succ, i64_w, i32_w]; rfl
                            refine pure_ (i := 5) (N := some 24) (v := ?_) (a' := ?_) #[t_,t_,t_,f_,t_,t_,f_,f_,f_] rfl rfl (any_of HT_.out z7_) (fun _ _ _ h => h) (Or.inl ⟨by rfl, ?_⟩) ?_ ?_; rotate_left
                            · intro w'; go_simp; with_reducible rfl
                            rotate_left
                            · simp only [Act.put, List.setIfInBounds_toArray, List.set_cons_zero, List.set_cons_succ, i64_w, i32_w]; rfl
                            refine pure_ (i := 6) (N := some 25) (v := ?_) (a' := ?_) #[t_,t_,t_,f_,t_,t_,t_,f_,f_] rfl rfl (any_of HT_.out z7_) (fun _ _ _ h => h) (Or.inl ⟨by rfl, ?_⟩) ?_ ?_; rotate_left
                            · intro w'; go_simp; with_reducible rfl
                            rotate_left
                            · simp only [Act.put, List.setIfInBounds_toArray, List.set_cons_zero, List.set_cons_succ, i64_w, i32_w]; rfl
                            refine take_ (i := 3) (N := some 22) (v := ?_) (a' := ?_) #[t_,t_,t_,t_,t_,t_,t_,f_,f_] rfl rfl (take_ofW HT_.out HW_.out z7_) (fun _ _ _ h => h) (Or.inl ⟨by rfl, ?_⟩) hHeld ?_ ?_; rotate_left
                            · rintro w' ⟨s0, s1⟩; go_simp; with_reducible rfl
                            rotate_left
                            · simp only [Act.put, List.setIfInBounds_toArray, List.set_cons_zero, List.set_cons_succ, i64_w, i32_w]; rfl
                            refine take_ (i := 7) (N := some 26) (v := ?_) (a' := ?_) #[t_,t_,t_,t_,t_,t_,t_,t_,f_] rfl rfl (take_ofW HT_.out HW_.out z7_) (fun _ _ _ h => h) (Or.inl ⟨by rfl, ?_⟩) hHeld ?_ ?_; rotate_left
                            · rintro w' ⟨s0, s1⟩; go_simp; with_reducible rfl
                            rotate_left
                            · simp only [Act.put, List.setIfInBounds_toArray, List.set_cons_zero, List.set_cons_succ, i64_w, i32_w]; rfl
                            refine pure_ (i := 8) (N := some 27) (v := ?_) (a' := ?_) #[t_,t_,t_,t_,t_,t_,t_,t_,t_] rfl rfl (any_of HT_.out z7_) (fun _ _ _ h => h) (Or.inl ⟨by rfl, ?_⟩) ?_ ?_; rotate_left
                            · intro w'; go_simp; with_reducible rfl
                            rotate_left
                            · simp only [Act.put, List.setIfInBounds_toArray, List.set_cons_zero, List.set_cons_succ, i64_w, i32_w]; rfl
                            refine done_ (done_of HT_.out z7_) ?_; (try go_wp2); replace HO_1 := Aside0.mk (Kd.R_drew HO_1.out); replace HO_5 := Aside0.mk (Kd.R_drew HO_5.out); replace HK := Aside0.mk (Kept.drew HK.out); replace HB := Aside0.mk (below_drew1 HB.out); have p210 : 0 ≤ (x8_2 : Int) := of_decide_eq_true z1_; have q210 : x8_2 < (x5_1.length : Int) := of_decide_eq_true z1_; obtain ⟨ad210, e210, hx210_0⟩ := Kd.at_int (Kd.R_reads' HO_5.out).2.2 x8_2 p210 q210; obtain rfl : ad208 = ad210 := (by injection e210); replace p210 := eq_true p210; replace q210 := eq_true q210; have p211 : 0 ≤ (x7_2 : Int) := of_decide_eq_true z1_; have q211 : x7_2 < (x5_1.length : Int) := of_decide_eq_true z1_; obtain ⟨ad211, e211, hx211_0⟩ := Kd.at_int (Kd.R_reads' HO_5.out).2.2 x7_2 p211 q211; obtain rfl : ad208 = ad211 := (by injection e211); replace p211 := eq_true p211; replace q211 := eq_true q211; refine start_ (n := 9) (S := fun w' => w'.cell? (ad208.add (x8_2).toNat) = some (.int .i64 (rd x5_1 x8_2)) ∧ w'.cell? (ad208.add (x7_2).toNat) = some (.int .i64 (rd x5_1 x7_2))) (ds := []) #[f_,f_,f_,f_,f_,f_,f_,f_,f_] z7_ rfl rfl ⟨hx210_0, hx211_0⟩ (fun hHeld => ?_); refine with_tabW spec_l02Settle.tab9 spec_l02Settle.bits9 (fun HT_ HW_ => ?_); generalize w16.drew = w17 at HO_1 HO_5 HK HB hx210_0 hx211_0 hHeld ⊢; refine pure_ (i := 0) (N := some 29) (v := ?_) (a' := ?_) #[t_,f_,f_,f_,f_,f_,f_,f_,f_] rfl rfl (any_of HT_.out z7_) (fun _ _ _ h => h) (Or.inl ⟨by rfl, ?_⟩) ?_ ?_; rotate_left
                            · intro w'; go_simp; with_reducible rfl
                            rotate_left
                            · simp only [Act.put, List.setIfInBounds_toArray, List.set_cons_zero, List.set_cons_succ, i64_w, i32_w]; rfl
                            refine pure_ (i := 1) (N := some 30) (v := ?_) (a' := ?_) #[t_,t_,f_,f_,f_,f_,f_,f_,f_] rfl rfl (any_of HT_.out z7_) (fun _ _ _ h => h) (Or.inl ⟨by rfl, ?_⟩) ?_ ?_; rotate_left
                            · intro w'; go_simp; with_reducible rfl
                            rotate_left
                            · simp only [Act.put, List.setIfInBounds_toArray, List.set_cons_zero, List.set_cons_succ, i64_w, i32_w]; rfl
                            refine pure_ (i := 2) (N := some 31) (v := ?_) (a' := ?_) #[t_,t_,t_,f_,f_,f_,f_,f_,f_] rfl rfl (any_of HT_.out z7_) (fun _ _ _ h => h) (Or.inl ⟨by rfl, ?_⟩) ?_ ?_; rotate_left
                            · intro w'; go_simp; with_reducible rfl
                            rotate_left
                            · simp only [Act.put, List.setIfInBounds_toArray, List.set_cons_zero, List.set_cons_succ, i64_w, i32_w]; rfl
                            refine pure_ (i := 4) (N := some 33) (v := ?_) (a' := ?_) #[t_,t_,t_,f_,t_,f_,f_,f_,f_] rfl rfl (any_of HT_.out z7_) (fun _ _ _ h => h) (Or.inl ⟨by rfl, ?_⟩) ?_ ?_; rotate_left
                            · intro w'; go_simp; with_reducible rfl
                            rotate_left
                            · simp only [Act.put, List.setIfInBounds_toArray, List.set_cons_zero, List.set_cons_succ, i64_w, i32_w]; rfl
                            refine pure_ (i := 5) (N := some 34) (v := ?_) (a' := ?_) #[t_,t_,t_,f_,t_,t_,f_,f_,f_] rfl rfl (any_of HT_.out z7_) (fun _ _ _ h => h) (Or.inl ⟨by rfl, ?_⟩) ?_ ?_; rotate_left
                            · intro w'; go_simp; with_reducible rfl
                            rotate_left
                            · simp only [Act.put, List.setIfInBounds_toArray, List.set_cons_zero, List.set_cons_succ, i64_w, i32_w]; rfl
                            refine pure_ (i := 6) (N := some 35) (v := ?_) (a' := ?_) #[t_,t_,t_,f_,t_,t_,t_,f_,f_] rfl rfl (any_of HT_.out z7_) (fun _ _ _ h => h) (Or.inl ⟨by rfl, ?_⟩) ?_ ?_; rotate_left
                            · intro w'; go_simp; with_reducible rfl
                            rotate_left
                            · simp only [Act.put, List.setIfInBounds_toArray, List.set_cons_zero, List.set_cons_succ, i64_w, i32_w]; rfl
                            refine take_ (i := 3) (N := some 32) (v := ?_) (a' := ?_) #[t_,t_,t_,t_,t_,t_,t_,f_,f_] rfl rfl (take_ofW HT_.out HW_.out z7_) (fun _ _ _ h => h) (Or.inl ⟨by rfl, ?_⟩) hHeld ?_ ?_; rotate_left
                            · rintro w' ⟨s0, s1⟩; go_simp; with_reducible rfl
                            rotate_left
                            · simp only [Act.put, List.setIfInBounds_toArray, List.set_cons_zero, List.set_cons_succ, i64_w, i32_w]; rfl
                            refine take_ (i := 7) (N := some 36) (v := ?_) (a' := ?_) #[t_,t_,t_,t_,t_,t_,t_,t_,f_] rfl rfl (take_ofW HT_.out HW_.out z7_) (fun _ _ _ h => h) (Or.inl ⟨by rfl, ?_⟩) hHeld ?_ ?_; rotate_left
                            · rintro w' ⟨s0, s1⟩; go_simp; with_reducible rfl
                            rotate_left
                            · simp only [Act.put, List.setIfInBounds_toArray, List.set_cons_zero, List.set_cons_succ, i64_w, i32_w]; rfl
                            refine pure_ (i := 8) (N := some 37) (v := ?_) (a' := ?_) #[t_,t_,t_,t_,t_,t_,t_,t_,t_] rfl rfl (any_of HT_.out z7_) (fun _ _ _ h => h) (Or.inl ⟨by rfl, ?_⟩) ?_ ?_; rotate_left
                            · intro w'; go_simp; with_reducible rfl
                            rotate_left
                            · simp only [Act.put, List.setIfInBounds_toArray, List.set_cons_zero, List.set_cons_succ, i64_w, i32_w]; rfl
                            refine done_ (done_of HT_.out z7_) ?_; (try go_wp2); go_roundg k2
                            case measure => have := HK1.out; have := HK2.out; omega
                            case rel => exact ⟨(x8_2), (x8_2), (wrap64 (x8_2 + 1)), z3_, z3_, z3_, H', ⟨z36_⟩, ⟨z27_⟩, ⟨z16_⟩, ⟨z14_⟩, ⟨z0_⟩⟩
                          · rw [if_neg c14] at H; have c14b0 : decide ((rd x5_1 x7_2) < (rd x5_1 x8_2)) = false := decide_eq_false c14; clear c14; have H' := Aside0.mk H; clear H; obtain ⟨Ao18, co18, eo18⟩ := Kd.R_slice HO_5.out; subst eo18; (try go_wp2); replace HO_1 := Aside0.mk (Kd.R_drew HO_1.out); replace HO_5 := Aside0.mk (Kd.R_drew HO_5.out); replace HK := Aside0.mk (Kept.drew HK.out); replace HB := Aside0.mk (below_drew1 HB.out); have p208 : 0 ≤ (x8_2 : Int) := of_decide_eq_true z1_; have q208 : x8_2 < (x5_1.length : Int) := of_decide_eq_true z1_; obtain ⟨ad208, e208, hx208_0⟩ := Kd.at_int (Kd.R_reads' HO_5.out).2.2 x8_2 p208 q208; cases e208; replace p208 := eq_true p208; replace q208 := eq_true q208; have p209 : 0 ≤ (x6_2 : Int) := of_decide_eq_true z1_; have q209 : x6_2 < (x5_1.length : Int) := of_decide_eq_true z1_; obtain ⟨ad209, e209, hx209_0⟩ := Kd.at_int (Kd.R_reads' HO_5.out).2.2 x6_2 p209 q209; obtain rfl : ad208 = ad209 := (by injection e209); replace p209 := eq_true p209; replace q209 := eq_true q209; refine start_ (n := 9) (S := fun w' => w'.cell? (ad208.add (x8_2).toNat) = some (.int .i64 (rd x5_1 x8_2)) ∧ w'.cell? (ad208.add (x6_2).toNat) = some (.int .i64 (rd x5_1 x6_2))) (ds := []) #[f_,f_,f_,f_,f_,f_,f_,f_,f_] z7_ rfl rfl ⟨hx208_0, hx209_0⟩ (fun hHeld => ?_); refine with_tabW spec_l02Settle.tab7 spec_l02Settle.bits7 (fun HT_ HW_ => ?_); generalize wr.drew = w19 at HO_1 HO_5 HK HB hx208_0 hx209_0 hHeld ⊢; refine pure_ (i := 0) (N := some 19) (v := ?_) (a' := ?_) #[t_,f_,f_,f_,f_,f_,f_,f_,f_] rfl rfl (any_of HT_.out z7_) (fun _ _ _ h => h) (Or.inl ⟨by rfl, ?_⟩) ?_ ?_; rotate_left
                            · intro w'; go_simp; with_reducible rfl
                            rotate_left
                            · simp only [Act.put, List.setIfInBounds_toArray, List.set_cons_zero, List.set_cons_succ, i64_w, i32_w]; rfl
                            refine pure_ (i := 1) (N := some 20) (v := ?_) (a' := ?_) #[t_,t_,f_,f_,f_,f_,f_,f_,f_] rfl rfl (any_of HT_.out z7_) (fun _ _ _ h => h) (Or.inl ⟨by rfl, ?_⟩) ?_ ?_; rotate_left
                            · intro w'; go_simp; with_reducible rfl
                            rotate_left
                            · simp only [Act.put, List.setIfInBounds_toArray, List.set_cons_zero, List.set_cons_succ, i64_w, i32_w]; rfl
                            refine pure_ (i := 2) (N := some 21) (v := ?_) (a' := ?_) #[t_,t_,t_,f_,f_,f_,f_,f_,f_] rfl rfl (any_of HT_.out z7_) (fun _ _ _ h => h) (Or.inl ⟨by rfl, ?_⟩) ?_ ?_; rotate_left
                            · intro w'; go_simp; with_reducible rfl
                            rotate_left
                            · simp only [Act.put, List.setIfInBounds_toArray, List.set_cons_zero, List.set_cons_succ, i64_w, i32_w]; rfl
                            refine pure_ (i := 4) (N := some 23) (v := ?_) (a' := ?_) #[t_,t_,t_,f_,t_,f_,f_,f_,f_] rfl rfl (any_of HT_.out z7_) (fun _ _ _ h => h) (Or.inl ⟨by rfl, ?_⟩) ?_ ?_; rotate_left
                            · intro w'; go_simp; with_reducible rfl
                            rotate_left
                            · simp only [Act.put, List.setIfInBounds_toArray, List.set_cons_zero, List.set_cons_succ, i64_w, i32_w]; rfl
                            refine pure_ (i := 5) (N := some 24) (v := ?_) (a' := ?_) #[t_,t_,t_,f_,t_,t_,f_,f_,f_] rfl rfl (any_of HT_.out z7_) (fun _ _ _ h => h) (Or.inl ⟨by rfl, ?_⟩) ?_ ?_; rotate_left
                            · intro w'; go_simp; with_reducible rfl
                            rotate_left
                            · simp only [Act.put, List.setIfInBounds_toArray, List.set_cons_zero, List.set_cons_succ, i64_w, i32_w]; rfl
                            refine pure_ (i := 6) (N := some 25) (v := ?_) (a' := ?_) #[t_,t_,t_,f_,t_,t_,t_,f_,f_] rfl rfl (any_of HT_.out z7_) (fun _ _ _ h => h) (Or.inl ⟨by rfl, ?_⟩) ?_ ?_; rotate_left
                            · intro w'; go_simp; with_reducible rfl
                            rotate_left
                            · simp only [Act.put, List.setIfInBounds_toArray, List.set_cons_zero, List.set_cons_succ, i64_w, i32_w]; rfl
                            refine take_ (i := 3) (N := some 22) (v := ?_) (a' := ?_) #[t_,t_,t_,t_,t_,t_,t_,f_,f_] rfl rfl (take_ofW HT_.out HW_.out z7_) (fun _ _ _ h => h) (Or.inl ⟨by rfl, ?_⟩) hHeld ?_ ?_; rotate_left
                            · rintro w' ⟨s0, s1⟩; go_simp; with_reducible rfl
                            rotate_left
                            · simp only [Act.put, List.setIfInBounds_toArray, List.set_cons_zero, List.set_cons_succ, i64_w, i32_w]; rfl
                            refine take_ (i := 7) (N := some 26) (v := ?_) (a' := ?_) #[t_,t_,t_,t_,t_,t_,t_,t_,f_] rfl rfl (take_ofW HT_.out HW_.out z7_) (fun _ _ _ h => h) (Or.inl ⟨by rfl, ?_⟩) hHeld ?_ ?_; rotate_left
                            · rintro w' ⟨s0, s1⟩; go_simp; with_reducible rfl
                            rotate_left
                            · simp only [Act.put, List.setIfInBounds_toArray, List.set_cons_zero, List.set_cons_succ, i64_w, i32_w]; rfl
                            refine pure_ (i := 8) (N := some 27) (v := ?_) (a' := ?_) #[t_,t_,t_,t_,t_,t_,t_,t_,t_] rfl rfl (any_of HT_.out z7_) (fun _ _ _ h => h) (Or.inl ⟨by rfl, ?_⟩) ?_ ?_; rotate_left
                            · intro w'; go_simp; with_reducible rfl
                            rotate_left
                            · simp only [Act.put, List.setIfInBounds_toArray, List.set_cons_zero, List.set_cons_succ, i64_w, i32_w]; rfl
                            refine done_ (done_of HT_.out z7_) ?_; (try go_wp2); replace HO_1 := Aside0.mk (Kd.R_drew HO_1.out); replace HO_5 := Aside0.mk (Kd.R_drew HO_5.out); replace HK := Aside0.mk (Kept.drew HK.out); replace HB := Aside0.mk (below_drew1 HB.out); have p210 : 0 ≤ (x8_2 : Int) := of_decide_eq_true z1_; have q210 : x8_2 < (x5_1.length : Int) := of_decide_eq_true z1_; obtain ⟨ad210, e210, hx210_0⟩ := Kd.at_int (Kd.R_reads' HO_5.out).2.2 x8_2 p210 q210; obtain rfl : ad208 = ad210 := (by injection e210); replace p210 := eq_true p210; replace q210 := eq_true q210; have p211 : 0 ≤ (x7_2 : Int) := of_decide_eq_true z1_; have q211 : x7_2 < (x5_1.length : Int) := of_decide_eq_true z1_; obtain ⟨ad211, e211, hx211_0⟩ := Kd.at_int (Kd.R_reads' HO_5.out).2.2 x7_2 p211 q211; obtain rfl : ad208 = ad211 := (by injection e211); replace p211 := eq_true p211; replace q211 := eq_true q211; refine start_ (n := 9) (S := fun w' => w'.cell? (ad208.add (x8_2).toNat) = some (.int .i64 (rd x5_1 x8_2)) ∧ w'.cell? (ad208.add (x7_2).toNat) = some (.int .i64 (rd x5_1 x7_2))) (ds := []) #[f_,f_,f_,f_,f_,f_,f_,f_,f_] z7_ rfl rfl ⟨hx210_0, hx211_0⟩ (fun hHeld => ?_); refine with_tabW spec_l02Settle.tab9 spec_l02Settle.bits9 (fun HT_ HW_ => ?_); generalize w19.drew = w20 at HO_1 HO_5 HK HB hx210_0 hx211_0 hHeld ⊢; refine pure_ (i := 0) (N := some 29) (v := ?_) (a' := ?_) #[t_,f_,f_,f_,f_,f_,f_,f_,f_] rfl rfl (any_of HT_.out z7_) (fun _ _ _ h => h) (Or.inl ⟨by rfl, ?_⟩) ?_ ?_; rotate_left
                            · intro w'; go_simp; with_reducible rfl
                            rotate_left
                            · simp only [Act.put, List.setIfInBounds_toArray, List.set_cons_zero, List.set_cons_succ, i64_w, i32_w]; rfl
                            refine pure_ (i := 1) (N := some 30) (v := ?_) (a' := ?_) #[t_,t_,f_,f_,f_,f_,f_,f_,f_] rfl rfl (any_of HT_.out z7_) (fun _ _ _ h => h) (Or.inl ⟨by rfl, ?_⟩) ?_ ?_; rotate_left
                            · intro w'; go_simp; with_reducible rfl
                            rotate_left
                            · simp only [Act.put, List.setIfInBounds_toArray, List.set_cons_zero, List.set_cons_succ, i64_w, i32_w]; rfl
                            refine pure_ (i := 2) (N := some 31) (v := ?_) (a' := ?_) #[t_,t_,t_,f_,f_,f_,f_,f_,f_] rfl rfl (any_of HT_.out z7_) (fun _ _ _ h => h) (Or.inl ⟨by rfl, ?_⟩) ?_ ?_; rotate_left
                            · intro w'; go_simp; with_reducible rfl
                            rotate_left
                            · simp only [Act.put, List.setIfInBounds_toArray, List.set_cons_zero, List.set_cons_succ, i64_w, i32_w]; rfl
                            refine pure_ (i := 4) (N := some 33) (v := ?_) (a' := ?_) #[t_,t_,t_,f_,t_,f_,f_,f_,f_] rfl rfl (any_of HT_.out z7_) (fun _ _ _ h => h) (Or.inl ⟨by rfl, ?_⟩) ?_ ?_; rotate_left
                            · intro w'; go_simp; with_reducible rfl
                            rotate_left
                            · simp only [Act.put, List.setIfInBounds_toArray, List.set_cons_zero, List.set_cons_succ, i64_w, i32_w]; rfl
                            refine pure_ (i := 5) (N := some 34) (v := ?_) (a' := ?_) #[t_,t_,t_,f_,t_,t_,f_,f_,f_] rfl rfl (any_of HT_.out z7_) (fun _ _ _ h => h) (Or.inl ⟨by rfl, ?_⟩) ?_ ?_; rotate_left
                            · intro w'; go_simp; with_reducible rfl
                            rotate_left
                            · simp only [Act.put, List.setIfInBounds_toArray, List.set_cons_zero, List.set_cons_succ, i64_w, i32_w]; rfl
                            refine pure_ (i := 6) (N := some 35) (v := ?_) (a' := ?_) #[t_,t_,t_,f_,t_,t_,t_,f_,f_] rfl rfl (any_of HT_.out z7_) (fun _ _ _ h => h) (Or.inl ⟨by rfl, ?_⟩) ?_ ?_; rotate_left
                            · intro w'; go_simp; with_reducible rfl
                            rotate_left
                            · simp only [Act.put, List.setIfInBounds_toArray, List.set_cons_zero, List.set_cons_succ, i64_w, i32_w]; rfl
                            refine take_ (i := 3) (N := some 32) (v := ?_) (a' := ?_) #[t_,t_,t_,t_,t_,t_,t_,f_,f_] rfl rfl (take_ofW HT_.out HW_.out z7_) (fun _ _ _ h => h) (Or.inl ⟨by rfl, ?_⟩) hHeld ?_ ?_; rotate_left
                            · rintro w' ⟨s0, s1⟩; go_simp; with_reducible rfl
                            rotate_left
                            · simp only [Act.put, List.setIfInBounds_toArray, List.set_cons_zero, List.set_cons_succ, i64_w, i32_w]; rfl
                            refine take_ (i := 7) (N := some 36) (v := ?_) (a' := ?_) #[t_,t_,t_,t_,t_,t_,t_,t_,f_] rfl rfl (take_ofW HT_.out HW_.out z7_) (fun _ _ _ h => h) (Or.inl ⟨by rfl, ?_⟩) hHeld ?_ ?_; rotate_left
                            · rintro w' ⟨s0, s1⟩; go_simp; with_reducible rfl
                            rotate_left
                            · simp only [Act.put, List.setIfInBounds_toArray, List.set_cons_zero, List.set_cons_succ, i64_w, i32_w]; rfl
                            refine pure_ (i := 8) (N := some 37) (v := ?_) (a' := ?_) #[t_,t_,t_,t_,t_,t_,t_,t_,t_] rfl rfl (any_of HT_.out z7_) (fun _ _ _ h => h) (Or.inl ⟨by rfl, ?_⟩) ?_ ?_; rotate_left
                            · intro w'; go_simp; with_reducible rfl
                            rotate_left
                            · simp only [Act.put, List.setIfInBounds_toArray, List.set_cons_zero, List.set_cons_succ, i64_w, i32_w]; rfl
                            refine done_ (done_of HT_.out z7_) ?_; (try go_wp2); go_roundg k2
                            case measure => have := HK1.out; have := HK2.out; omega
                            case rel => exact ⟨(x8_2), (x7_2), (wrap64 (x8_2 + 1)), z3_, z3_, z3_, H', ⟨z36_⟩, ⟨z27_⟩, ⟨z16_⟩, ⟨z14_⟩, ⟨z0_⟩⟩
                        · rw [if_neg c13] at H; exact absurd H (by simp)
                      · rw [if_neg c12] at H; exact absurd H (by simp)
                    · rw [if_neg c11] at H; have c11b0 : decide ((rd x5_1 x8_2) < (rd x5_1 x6_2)) = false := decide_eq_false c11; clear c11; by_cases c21 : 0 ≤ x7_2
                      · rw [if_pos c21] at H; have c21b0 : decide (0 ≤ x7_2) = true := decide_eq_true c21; clear c21; by_cases c22 : x7_2 < (x5_1.length : Int)
                        · rw [if_pos c22] at H; have c22b0 : decide (x7_2 < (x5_1.length : Int)) = true := decide_eq_true c22; clear c22; by_cases c23 : (rd x5_1 x8_2) > (rd x5_1 x7_2)
                          · rw [if_pos c23] at H; have c23b0 : decide ((rd x5_1 x7_2) < (rd x5_1 x8_2)) = true := decide_eq_true c23; clear c23; have H' := Aside0.mk H; clear H; obtain ⟨Ao24, co24, eo24⟩ := Kd.R_slice HO_5.out; subst eo24; (try go_wp2); replace HO_1 := Aside0.mk (Kd.R_drew HO_1.out); replace HO_5 := Aside0.mk (Kd.R_drew HO_5.out); replace HK := Aside0.mk (Kept.drew HK.out); replace HB := Aside0.mk (below_drew1 HB.out); have p208 : 0 ≤ (x8_2 : Int) := of_decide_eq_true z1_; have q208 : x8_2 < (x5_1.length : Int) := of_decide_eq_true z1_; obtain ⟨ad208, e208, hx208_0⟩ := Kd.at_int (Kd.R_reads' HO_5.out).2.2 x8_2 p208 q208; cases e208; replace p208 := eq_true p208; replace q208 := eq_true q208; have p209 : 0 ≤ (x6_2 : Int) := of_decide_eq_true z1_; have q209 : x6_2 < (x5_1.length : Int) := of_decide_eq_true z1_; obtain ⟨ad209, e209, hx209_0⟩ := Kd.at_int (Kd.R_reads' HO_5.out).2.2 x6_2 p209 q209; obtain rfl : ad208 = ad209 := (by injection e209); replace p209 := eq_true p209; replace q209 := eq_true q209; refine start_ (n := 9) (S := fun w' => w'.cell? (ad208.add (x8_2).toNat) = some (.int .i64 (rd x5_1 x8_2)) ∧ w'.cell? (ad208.add (x6_2).toNat) = some (.int .i64 (rd x5_1 x6_2))) (ds := []) #[f_,f_,f_,f_,f_,f_,f_,f_,f_] z7_ rfl rfl ⟨hx208_0, hx209_0⟩ (fun hHeld => ?_); refine with_tabW spec_l02Settle.tab7 spec_l02Settle.bits7 (fun HT_ HW_ => ?_); generalize wr.drew = w25 at HO_1 HO_5 HK HB hx208_0 hx209_0 hHeld ⊢; refine pure_ (i := 0) (N := some 19) (v := ?_) (a' := ?_) #[t_,f_,f_,f_,f_,f_,f_,f_,f_] rfl rfl (any_of HT_.out z7_) (fun _ _ _ h => h) (Or.inl ⟨by rfl, ?_⟩) ?_ ?_; rotate_left
                            · intro w'; go_simp; with_reducible rfl
                            rotate_left
                            · simp only [Act.put, List.setIfInBounds_toArray, List.set_cons_zero, List.set_cons_succ, i64_w, i32_w]; rfl
                            refine pure_ (i := 1) (N := some 20) (v := ?_) (a' := ?_) #[t_,t_,f_,f_,f_,f_,f_,f_,f_] rfl rfl (any_of HT_.out z7_) (fun _ _ _ h => h) (Or.inl ⟨by rfl, ?_⟩) ?_ ?_; rotate_left
                            · intro w'; go_simp; with_reducible rfl
                            rotate_left
                            · simp only [Act.put, List.setIfInBounds_toArray, List.set_cons_zero, List.set_cons_succ, i64_w, i32_w]; rfl
                            refine pure_ (i := 2) (N := some 21) (v := ?_) (a' := ?_) #[t_,t_,t_,f_,f_,f_,f_,f_,f_] rfl rfl (any_of HT_.out z7_) (fun _ _ _ h => h) (Or.inl ⟨by rfl, ?_⟩) ?_ ?_; rotate_left
                            · intro w'; go_simp; with_reducible rfl
                            rotate_left
                            · simp only [Act.put, List.setIfInBounds_toArray, List.set_cons_zero, List.set_cons_succ, i64_w, i32_w]; rfl
                            refine pure_ (i := 4) (N := some 23) (v := ?_) (a' := ?_) #[t_,t_,t_,f_,t_,f_,f_,f_,f_] rfl rfl (any_of HT_.out z7_) (fun _ _ _ h => h) (Or.inl ⟨by rfl, ?_⟩) ?_ ?_; rotate_left
                            · intro w'; go_simp; with_reducible rfl
                            rotate_left
                            · simp only [Act.put, List.setIfInBounds_toArray, List.set_cons_zero, List.set_cons_succ, i64_w, i32_w]; rfl
                            refine pure_ (i := 5) (N := some 24) (v := ?_) (a' := ?_) #[t_,t_,t_,f_,t_,t_,f_,f_,f_] rfl rfl (any_of HT_.out z7_) (fun _ _ _ h => h) (Or.inl ⟨by rfl, ?_⟩) ?_ ?_; rotate_left
                            · intro w'; go_simp; with_reducible rfl
                            rotate_left
                            · simp only [Act.put, List.setIfInBounds_toArray, List.set_cons_zero, List.set_cons_succ, i64_w, i32_w]; rfl
                            refine pure_ (i := 6) (N := some 25) (v := ?_) (a' := ?_) #[t_,t_,t_,f_,t_,t_,t_,f_,f_] rfl rfl (any_of HT_.out z7_) (fun _ _ _ h => h) (Or.inl ⟨by rfl, ?_⟩) ?_ ?_; rotate_left
                            · intro w'; go_simp; with_reducible rfl
                            rotate_left
                            · simp only [Act.put, List.setIfInBounds_toArray, List.set_cons_zero, List.set_cons_succ, i64_w, i32_w]; rfl
                            refine take_ (i := 3) (N := some 22) (v := ?_) (a' := ?_) #[t_,t_,t_,t_,t_,t_,t_,f_,f_] rfl rfl (take_ofW HT_.out HW_.out z7_) (fun _ _ _ h => h) (Or.inl ⟨by rfl, ?_⟩) hHeld ?_ ?_; rotate_left
                            · rintro w' ⟨s0, s1⟩; go_simp; with_reducible rfl
                            rotate_left
                            · simp only [Act.put, List.setIfInBounds_toArray, List.set_cons_zero, List.set_cons_succ, i64_w, i32_w]; rfl
                            refine take_ (i := 7) (N := some 26) (v := ?_) (a' := ?_) #[t_,t_,t_,t_,t_,t_,t_,t_,f_] rfl rfl (take_ofW HT_.out HW_.out z7_) (fun _ _ _ h => h) (Or.inl ⟨by rfl, ?_⟩) hHeld ?_ ?_; rotate_left
                            · rintro w' ⟨s0, s1⟩; go_simp; with_reducible rfl
                            rotate_left
                            · simp only [Act.put, List.setIfInBounds_toArray, List.set_cons_zero, List.set_cons_succ, i64_w, i32_w]; rfl
                            refine pure_ (i := 8) (N := some 27) (v := ?_) (a' := ?_) #[t_,t_,t_,t_,t_,t_,t_,t_,t_] rfl rfl (any_of HT_.out z7_) (fun _ _ _ h => h) (Or.inl ⟨by rfl, ?_⟩) ?_ ?_; rotate_left
                            · intro w'; go_simp; with_reducible rfl
                            rotate_left
                            · simp only [Act.put, List.setIfInBounds_toArray, List.set_cons_zero, List.set_cons_succ, i64_w, i32_w]; rfl
                            refine done_ (done_of HT_.out z7_) ?_; (try go_wp2); replace HO_1 := Aside0.mk (Kd.R_drew HO_1.out); replace HO_5 := Aside0.mk (Kd.R_drew HO_5.out); replace HK := Aside0.mk (Kept.drew HK.out); replace HB := Aside0.mk (below_drew1 HB.out); have p212 : 0 ≤ (x8_2 : Int) := of_decide_eq_true z1_; have q212 : x8_2 < (x5_1.length : Int) := of_decide_eq_true z1_; obtain ⟨ad212, e212, hx212_0⟩ := Kd.at_int (Kd.R_reads' HO_5.out).2.2 x8_2 p212 q212; obtain rfl : ad208 = ad212 := (by injection e212); replace p212 := eq_true p212; replace q212 := eq_true q212; have p213 : 0 ≤ (x7_2 : Int) := of_decide_eq_true z1_; have q213 : x7_2 < (x5_1.length : Int) := of_decide_eq_true z1_; obtain ⟨ad213, e213, hx213_0⟩ := Kd.at_int (Kd.R_reads' HO_5.out).2.2 x7_2 p213 q213; obtain rfl : ad208 = ad213 := (by injection e213); replace p213 := eq_true p213; replace q213 := eq_true q213; refine start_ (n := 9) (S := fun w' => w'.cell? (ad208.add (x8_2).toNat) = some (.int .i64 (rd x5_1 x8_2)) ∧ w'.cell? (ad208.add (x7_2).toNat) = some (.int .i64 (rd x5_1 x7_2))) (ds := []) #[f_,f_,f_,f_,f_,f_,f_,f_,f_] z7_ rfl rfl ⟨hx212_0, hx213_0⟩ (fun hHeld => ?_); refine with_tabW spec_l02Settle.tab9 spec_l02Settle.bits9 (fun HT_ HW_ => ?_); generalize w25.drew = w26 at HO_1 HO_5 HK HB hx212_0 hx213_0 hHeld ⊢; refine pure_ (i := 0) (N := some 29) (v := ?_) (a' := ?_) #[t_,f_,f_,f_,f_,f_,f_,f_,f_] rfl rfl (any_of HT_.out z7_) (fun _ _ _ h => h) (Or.inl ⟨by rfl, ?_⟩) ?_ ?_; rotate_left
                            · intro w'; go_simp; with_reducible rfl
                            rotate_left
                            · simp only [Act.put, List.setIfInBounds_toArray, List.set_cons_zero, List.set_cons_succ, i64_w, i32_w]; rfl
                            refine pure_ (i := 1) (N := some 30) (v := ?_) (a' := ?_) #[t_,t_,f_,f_,f_,f_,f_,f_,f_] rfl rfl (any_of HT_.out z7_) (fun _ _ _ h => h) (Or.inl ⟨by rfl, ?_⟩) ?_ ?_; rotate_left
                            · intro w'; go_simp; with_reducible rfl
                            rotate_left
                            · simp only [Act.put, List.setIfInBounds_toArray, List.set_cons_zero, List.set_cons_succ, i64_w, i32_w]; rfl
                            refine pure_ (i := 2) (N := some 31) (v := ?_) (a' := ?_) #[t_,t_,t_,f_,f_,f_,f_,f_,f_] rfl rfl (any_of HT_.out z7_) (fun _ _ _ h => h) (Or.inl ⟨by rfl, ?_⟩) ?_ ?_; rotate_left
                            · intro w'; go_simp; with_reducible rfl
                            rotate_left
                            · simp only [Act.put, List.setIfInBounds_toArray, List.set_cons_zero, List.set_cons_succ, i64_w, i32_w]; rfl
                            refine pure_ (i := 4) (N := some 33) (v := ?_) (a' := ?_) #[t_,t_,t_,f_,t_,f_,f_,f_,f_] rfl rfl (any_of HT_.out z7_) (fun _ _ _ h => h) (Or.inl ⟨by rfl, ?_⟩) ?_ ?_; rotate_left
                            · intro w'; go_simp; with_reducible rfl
                            rotate_left
                            · simp only [Act.put, List.setIfInBounds_toArray, List.set_cons_zero, List.set_cons_succ, i64_w, i32_w]; rfl
                            refine pure_ (i := 5) (N := some 34) (v := ?_) (a' := ?_) #[t_,t_,t_,f_,t_,t_,f_,f_,f_] rfl rfl (any_of HT_.out z7_) (fun _ _ _ h => h) (Or.inl ⟨by rfl, ?_⟩) ?_ ?_; rotate_left
                            · intro w'; go_simp; with_reducible rfl
                            rotate_left
                            · simp only [Act.put, List.setIfInBounds_toArray, List.set_cons_zero, List.set_cons_succ, i64_w, i32_w]; rfl
                            refine pure_ (i := 6) (N := some 35) (v := ?_) (a' := ?_) #[t_,t_,t_,f_,t_,t_,t_,f_,f_] rfl rfl (any_of HT_.out z7_) (fun _ _ _ h => h) (Or.inl ⟨by rfl, ?_⟩) ?_ ?_; rotate_left
                            · intro w'; go_simp; with_reducible rfl
                            rotate_left
                            · simp only [Act.put, List.setIfInBounds_toArray, List.set_cons_zero, List.set_cons_succ, i64_w, i32_w]; rfl
                            refine take_ (i := 3) (N := some 32) (v := ?_) (a' := ?_) #[t_,t_,t_,t_,t_,t_,t_,f_,f_] rfl rfl (take_ofW HT_.out HW_.out z7_) (fun _ _ _ h => h) (Or.inl ⟨by rfl, ?_⟩) hHeld ?_ ?_; rotate_left
                            · rintro w' ⟨s0, s1⟩; go_simp; with_reducible rfl
                            rotate_left
                            · simp only [Act.put, List.setIfInBounds_toArray, List.set_cons_zero, List.set_cons_succ, i64_w, i32_w]; rfl
                            refine take_ (i := 7) (N := some 36) (v := ?_) (a' := ?_) #[t_,t_,t_,t_,t_,t_,t_,t_,f_] rfl rfl (take_ofW HT_.out HW_.out z7_) (fun _ _ _ h => h) (Or.inl ⟨by rfl, ?_⟩) hHeld ?_ ?_; rotate_left
                            · rintro w' ⟨s0, s1⟩; go_simp; with_reducible rfl
                            rotate_left
                            · simp only [Act.put, List.setIfInBounds_toArray, List.set_cons_zero, List.set_cons_succ, i64_w, i32_w]; rfl
                            refine pure_ (i := 8) (N := some 37) (v := ?_) (a' := ?_) #[t_,t_,t_,t_,t_,t_,t_,t_,t_] rfl rfl (any_of HT_.out z7_) (fun _ _ _ h => h) (Or.inl ⟨by rfl, ?_⟩) ?_ ?_; rotate_left
                            · intro w'; go_simp; with_reducible rfl
                            rotate_left
                            · simp only [Act.put, List.setIfInBounds_toArray, List.set_cons_zero, List.set_cons_succ, i64_w, i32_w]; rfl
                            refine done_ (done_of HT_.out z7_) ?_; (try go_wp2); go_roundg k2
                            case measure => have := HK1.out; have := HK2.out; omega
                            case rel => exact ⟨(x6_2), (x8_2), (wrap64 (x8_2 + 1)), z3_, z3_, z3_, H', ⟨z36_⟩, ⟨z27_⟩, ⟨z16_⟩, ⟨z14_⟩, ⟨z0_⟩⟩
                          · rw [if_neg c23] at H; have c23b0 : decide ((rd x5_1 x7_2) < (rd x5_1 x8_2)) = false := decide_eq_false c23; clear c23; have H' := Aside0.mk H; clear H; obtain ⟨Ao27, co27, eo27⟩ := Kd.R_slice HO_5.out; subst eo27; (try go_wp2); replace HO_1 := Aside0.mk (Kd.R_drew HO_1.out); replace HO_5 := Aside0.mk (Kd.R_drew HO_5.out); replace HK := Aside0.mk (Kept.drew HK.out); replace HB := Aside0.mk (below_drew1 HB.out); have p208 : 0 ≤ (x8_2 : Int) := of_decide_eq_true z1_; have q208 : x8_2 < (x5_1.length : Int) := of_decide_eq_true z1_; obtain ⟨ad208, e208, hx208_0⟩ := Kd.at_int (Kd.R_reads' HO_5.out).2.2 x8_2 p208 q208; cases e208; replace p208 := eq_true p208; replace q208 := eq_true q208; have p209 : 0 ≤ (x6_2 : Int) := of_decide_eq_true z1_; have q209 : x6_2 < (x5_1.length : Int) := of_decide_eq_true z1_; obtain ⟨ad209, e209, hx209_0⟩ := Kd.at_int (Kd.R_reads' HO_5.out).2.2 x6_2 p209 q209; obtain rfl : ad208 = ad209 := (by injection e209); replace p209 := eq_true p209; replace q209 := eq_true q209; refine start_ (n := 9) (S := fun w' => w'.cell? (ad208.add (x8_2).toNat) = some (.int .i64 (rd x5_1 x8_2)) ∧ w'.cell? (ad208.add (x6_2).toNat) = some (.int .i64 (rd x5_1 x6_2))) (ds := []) #[f_,f_,f_,f_,f_,f_,f_,f_,f_] z7_ rfl rfl ⟨hx208_0, hx209_0⟩ (fun hHeld => ?_); refine with_tabW spec_l02Settle.tab7 spec_l02Settle.bits7 (fun HT_ HW_ => ?_); generalize wr.drew = w28 at HO_1 HO_5 HK HB hx208_0 hx209_0 hHeld ⊢; refine pure_ (i := 0) (N := some 19) (v := ?_) (a' := ?_) #[t_,f_,f_,f_,f_,f_,f_,f_,f_] rfl rfl (any_of HT_.out z7_) (fun _ _ _ h => h) (Or.inl ⟨by rfl, ?_⟩) ?_ ?_; rotate_left
                            · intro w'; go_simp; with_reducible rfl
                            rotate_left
                            · simp only [Act.put, List.setIfInBounds_toArray, List.set_cons_zero, List.set_cons_succ, i64_w, i32_w]; rfl
                            refine pure_ (i := 1) (N := some 20) (v := ?_) (a' := ?_) #[t_,t_,f_,f_,f_,f_,f_,f_,f_] rfl rfl (any_of HT_.out z7_) (fun _ _ _ h => h) (Or.inl ⟨by rfl, ?_⟩) ?_ ?_; rotate_left
                            · intro w'; go_simp; with_reducible rfl
                            rotate_left
                            · simp only [Act.put, List.setIfInBounds_toArray, List.set_cons_zero, List.set_cons_succ, i64_w, i32_w]; rfl
                            refine pure_ (i := 2) (N := some 21) (v := ?_) (a' := ?_) #[t_,t_,t_,f_,f_,f_,f_,f_,f_] rfl rfl (any_of HT_.out z7_) (fun _ _ _ h => h) (Or.inl ⟨by rfl, ?_⟩) ?_ ?_; rotate_left
                            · intro w'; go_simp; with_reducible rfl
                            rotate_left
                            · simp only [Act.put, List.setIfInBounds_toArray, List.set_cons_zero, List.set_cons_succ, i64_w, i32_w]; rfl
                            refine pure_ (i := 4) (N := some 23) (v := ?_) (a' := ?_) #[t_,t_,t_,f_,t_,f_,f_,f_,f_] rfl rfl (any_of HT_.out z7_) (fun _ _ _ h => h) (Or.inl ⟨by rfl, ?_⟩) ?_ ?_; rotate_left
                            · intro w'; go_simp; with_reducible rfl
                            rotate_left
                            · simp only [Act.put, List.setIfInBounds_toArray, List.set_cons_zero, List.set_cons_succ, i64_w, i32_w]; rfl
                            refine pure_ (i := 5) (N := some 24) (v := ?_) (a' := ?_) #[t_,t_,t_,f_,t_,t_,f_,f_,f_] rfl rfl (any_of HT_.out z7_) (fun _ _ _ h => h) (Or.inl ⟨by rfl, ?_⟩) ?_ ?_; rotate_left
                            · intro w'; go_simp; with_reducible rfl
                            rotate_left
                            · simp only [Act.put, List.setIfInBounds_toArray, List.set_cons_zero, List.set_cons_succ, i64_w, i32_w]; rfl
                            refine pure_ (i := 6) (N := some 25) (v := ?_) (a' := ?_) #[t_,t_,t_,f_,t_,t_,t_,f_,f_] rfl rfl (any_of HT_.out z7_) (fun _ _ _ h => h) (Or.inl ⟨by rfl, ?_⟩) ?_ ?_; rotate_left
                            · intro w'; go_simp; with_reducible rfl
                            rotate_left
                            · simp only [Act.put, List.setIfInBounds_toArray, List.set_cons_zero, List.set_cons_succ, i64_w, i32_w]; rfl
                            refine take_ (i := 3) (N := some 22) (v := ?_) (a' := ?_) #[t_,t_,t_,t_,t_,t_,t_,f_,f_] rfl rfl (take_ofW HT_.out HW_.out z7_) (fun _ _ _ h => h) (Or.inl ⟨by rfl, ?_⟩) hHeld ?_ ?_; rotate_left
                            · rintro w' ⟨s0, s1⟩; go_simp; with_reducible rfl
                            rotate_left
                            · simp only [Act.put, List.setIfInBounds_toArray, List.set_cons_zero, List.set_cons_succ, i64_w, i32_w]; rfl
                            refine take_ (i := 7) (N := some 26) (v := ?_) (a' := ?_) #[t_,t_,t_,t_,t_,t_,t_,t_,f_] rfl rfl (take_ofW HT_.out HW_.out z7_) (fun _ _ _ h => h) (Or.inl ⟨by rfl, ?_⟩) hHeld ?_ ?_; rotate_left
                            · rintro w' ⟨s0, s1⟩; go_simp; with_reducible rfl
                            rotate_left
                            · simp only [Act.put, List.setIfInBounds_toArray, List.set_cons_zero, List.set_cons_succ, i64_w, i32_w]; rfl
                            refine pure_ (i := 8) (N := some 27) (v := ?_) (a' := ?_) #[t_,t_,t_,t_,t_,t_,t_,t_,t_] rfl rfl (any_of HT_.out z7_) (fun _ _ _ h => h) (Or.inl ⟨by rfl, ?_⟩) ?_ ?_; rotate_left
                            · intro w'; go_simp; with_reducible rfl
                            rotate_left
                            · simp only [Act.put, List.setIfInBounds_toArray, List.set_cons_zero, List.set_cons_succ, i64_w, i32_w]; rfl
                            refine done_ (done_of HT_.out z7_) ?_; (try go_wp2); replace HO_1 := Aside0.mk (Kd.R_drew HO_1.out); replace HO_5 := Aside0.mk (Kd.R_drew HO_5.out); replace HK := Aside0.mk (Kept.drew HK.out); replace HB := Aside0.mk (below_drew1 HB.out); have p212 : 0 ≤ (x8_2 : Int) := of_decide_eq_true z1_; have q212 : x8_2 < (x5_1.length : Int) := of_decide_eq_true z1_; obtain ⟨ad212, e212, hx212_0⟩ := Kd.at_int (Kd.R_reads' HO_5.out).2.2 x8_2 p212 q212; obtain rfl : ad208 = ad212 := (by injection e212); replace p212 := eq_true p212; replace q212 := eq_true q212; have p213 : 0 ≤ (x7_2 : Int) := of_decide_eq_true z1_; have q213 : x7_2 < (x5_1.length : Int) := of_decide_eq_true z1_; obtain ⟨ad213, e213, hx213_0⟩ := Kd.at_int (Kd.R_reads' HO_5.out).2.2 x7_2 p213 q213; obtain rfl : ad208 = ad213 := (by injection e213); replace p213 := eq_true p213; replace q213 := eq_true q213; refine start_ (n := 9) (S := fun w' => w'.cell? (ad208.add (x8_2).toNat) = some (.int .i64 (rd x5_1 x8_2)) ∧ w'.cell? (ad208.add (x7_2).toNat) = some (.int .i64 (rd x5_1 x7_2))) (ds := []) #[f_,f_,f_,f_,f_,f_,f_,f_,f_] z7_ rfl rfl ⟨hx212_0, hx213_0⟩ (fun hHeld => ?_); refine with_tabW spec_l02Settle.tab9 spec_l02Settle.bits9 (fun HT_ HW_ => ?_); generalize w28.drew = w29 at HO_1 HO_5 HK HB hx212_0 hx213_0 hHeld ⊢; refine pure_ (i := 0) (N := some 29) (v := ?_) (a' := ?_) #[t_,f_,f_,f_,f_,f_,f_,f_,f_] rfl rfl (any_of HT_.out z7_) (fun _ _ _ h => h) (Or.inl ⟨by rfl, ?_⟩) ?_ ?_; rotate_left
                            · intro w'; go_simp; with_reducible rfl
                            rotate_left
                            · simp only [Act.put, List.setIfInBounds_toArray, List.set_cons_zero, List.set_cons_succ, i64_w, i32_w]; rfl
                            refine pure_ (i := 1) (N := some 30) (v := ?_) (a' := ?_) #[t_,t_,f_,f_,f_,f_,f_,f_,f_] rfl rfl (any_of HT_.out z7_) (fun _ _ _ h => h) (Or.inl ⟨by rfl, ?_⟩) ?_ ?_; rotate_left
                            · intro w'; go_simp; with_reducible rfl
                            rotate_left
                            · simp only [Act.put, List.setIfInBounds_toArray, List.set_cons_zero, List.set_cons_succ, i64_w, i32_w]; rfl
                            refine pure_ (i := 2) (N := some 31) (v := ?_) (a' := ?_) #[t_,t_,t_,f_,f_,f_,f_,f_,f_] rfl rfl (any_of HT_.out z7_) (fun _ _ _ h => h) (Or.inl ⟨by rfl, ?_⟩) ?_ ?_; rotate_left
                            · intro w'; go_simp; with_reducible rfl
                            rotate_left
                            · simp only [Act.put, List.setIfInBounds_toArray, List.set_cons_zero, List.set_cons_succ, i64_w, i32_w]; rfl
                            refine pure_ (i := 4) (N := some 33) (v := ?_) (a' := ?_) #[t_,t_,t_,f_,t_,f_,f_,f_,f_] rfl rfl (any_of HT_.out z7_) (fun _ _ _ h => h) (Or.inl ⟨by rfl, ?_⟩) ?_ ?_; rotate_left
                            · intro w'; go_simp; with_reducible rfl
                            rotate_left
                            · simp only [Act.put, List.setIfInBounds_toArray, List.set_cons_zero, List.set_cons_succ, i64_w, i32_w]; rfl
                            refine pure_ (i := 5) (N := some 34) (v := ?_) (a' := ?_) #[t_,t_,t_,f_,t_,t_,f_,f_,f_] rfl rfl (any_of HT_.out z7_) (fun _ _ _ h => h) (Or.inl ⟨by rfl, ?_⟩) ?_ ?_; rotate_left
                            · intro w'; go_simp; with_reducible rfl
                            rotate_left
                            · simp only [Act.put, List.setIfInBounds_toArray, List.set_cons_zero, List.set_cons_succ, i64_w, i32_w]; rfl
                            refine pure_ (i := 6) (N := some 35) (v := ?_) (a' := ?_) #[t_,t_,t_,f_,t_,t_,t_,f_,f_] rfl rfl (any_of HT_.out z7_) (fun _ _ _ h => h) (Or.inl ⟨by rfl, ?_⟩) ?_ ?_; rotate_left
                            · intro w'; go_simp; with_reducible rfl
                            rotate_left
                            · simp only [Act.put, List.setIfInBounds_toArray, List.set_cons_zero, List.set_cons_succ, i64_w, i32_w]; rfl
                            refine take_ (i := 3) (N := some 32) (v := ?_) (a' := ?_) #[t_,t_,t_,t_,t_,t_,t_,f_,f_] rfl rfl (take_ofW HT_.out HW_.out z7_) (fun _ _ _ h => h) (Or.inl ⟨by rfl, ?_⟩) hHeld ?_ ?_; rotate_left
                            · rintro w' ⟨s0, s1⟩; go_simp; with_reducible rfl
                            rotate_left
                            · simp only [Act.put, List.setIfInBounds_toArray, List.set_cons_zero, List.set_cons_succ, i64_w, i32_w]; rfl
                            refine take_ (i := 7) (N := some 36) (v := ?_) (a' := ?_) #[t_,t_,t_,t_,t_,t_,t_,t_,f_] rfl rfl (take_ofW HT_.out HW_.out z7_) (fun _ _ _ h => h) (Or.inl ⟨by rfl, ?_⟩) hHeld ?_ ?_; rotate_left
                            · rintro w' ⟨s0, s1⟩; go_simp; with_reducible rfl
                            rotate_left
                            · simp only [Act.put, List.setIfInBounds_toArray, List.set_cons_zero, List.set_cons_succ, i64_w, i32_w]; rfl
                            refine pure_ (i := 8) (N := some 37) (v := ?_) (a' := ?_) #[t_,t_,t_,t_,t_,t_,t_,t_,t_] rfl rfl (any_of HT_.out z7_) (fun _ _ _ h => h) (Or.inl ⟨by rfl, ?_⟩) ?_ ?_; rotate_left
                            · intro w'; go_simp; with_reducible rfl
                            rotate_left
                            · simp only [Act.put, List.setIfInBounds_toArray, List.set_cons_zero, List.set_cons_succ, i64_w, i32_w]; rfl
                            refine done_ (done_of HT_.out z7_) ?_; (try go_wp2); go_roundg k2
                            case measure => have := HK1.out; have := HK2.out; omega
                            case rel => exact ⟨(x6_2), (x7_2), (wrap64 (x8_2 + 1)), z3_, z3_, z3_, H', ⟨z36_⟩, ⟨z27_⟩, ⟨z16_⟩, ⟨z14_⟩, ⟨z0_⟩⟩
                        · rw [if_neg c22] at H; exact absurd H (by simp)
                      · rw [if_neg c21] at H; exact absurd H (by simp)
                  · rw [if_neg c10] at H; exact absurd H (by simp)
                · rw [if_neg c9] at H; exact absurd H (by simp)
              · rw [if_neg c8] at H; exact absurd H (by simp)
            · rw [if_neg c7] at H; have c7b0 : decide (x8_2 < (x5_1.length : Int)) = false := decide_eq_false c7; clear c7; by_cases c30 : 0 ≤ x6_2
              · rw [if_pos c30] at H; have c30b0 : decide (0 ≤ x6_2) = true := decide_eq_true c30; clear c30; by_cases c31 : x6_2 < (x5_1.length : Int)
                · rw [if_pos c31] at H; have c31b0 : decide (x6_2 < (x5_1.length : Int)) = true := decide_eq_true c31; clear c31; by_cases c32 : 0 ≤ x7_2
                  · rw [if_pos c32] at H; have c32b0 : decide (0 ≤ x7_2) = true := decide_eq_true c32; clear c32; by_cases c33 : x7_2 < (x5_1.length : Int)
                    · rw [if_pos c33] at H; have c33b0 : decide (x7_2 < (x5_1.length : Int)) = true := decide_eq_true c33; clear c33; replace H := Option.bind_eq_some_iff.mp H; obtain ⟨t200, A340, H⟩ := H;  have A34 := Aside0.mk A340; clear A340; by_cases c35 : t200 = 0
                      · rw [if_pos c35] at H; have c35b0 : (t200 == 0) = true := beq_iff_eq.mpr c35; have c35b1 : (t200 != 0) = false := bne_eq_false_iff_eq.mpr c35; clear c35; obtain rfl := Option.some.inj H; obtain ⟨Ao36, co36, eo36⟩ := Kd.R_slice HO_5.out; subst eo36; (try go_wp2); replace HO_1 := Aside0.mk (Kd.R_drew HO_1.out); replace HO_5 := Aside0.mk (Kd.R_drew HO_5.out); replace HK := Aside0.mk (Kept.drew HK.out); replace HB := Aside0.mk (below_drew1 HB.out); have p198 : 0 ≤ (x6_2 : Int) := of_decide_eq_true z1_; have q198 : x6_2 < (x5_1.length : Int) := of_decide_eq_true z1_; obtain ⟨ad198, e198, hx198_0⟩ := Kd.at_int (Kd.R_reads' HO_5.out).2.2 x6_2 p198 q198; cases e198; replace p198 := eq_true p198; replace q198 := eq_true q198; have p199 : 0 ≤ (x7_2 : Int) := of_decide_eq_true z1_; have q199 : x7_2 < (x5_1.length : Int) := of_decide_eq_true z1_; obtain ⟨ad199, e199, hx199_0⟩ := Kd.at_int (Kd.R_reads' HO_5.out).2.2 x7_2 p199 q199; obtain rfl : ad198 = ad199 := (by injection e199); replace p199 := eq_true p199; replace q199 := eq_true q199; refine start_ (n := 11) (S := fun w' => w'.cell? (ad198.add (x6_2).toNat) = some (.int .i64 (rd x5_1 x6_2)) ∧ w'.cell? (ad198.add (x7_2).toNat) = some (.int .i64 (rd x5_1 x7_2))) (ds := []) #[f_,f_,f_,f_,f_,f_,f_,f_,f_,f_,f_] z7_ rfl rfl ⟨hx198_0, hx199_0⟩ (fun hHeld => ?_); refine with_tabW spec_l02Settle.tab11 spec_l02Settle.bits11 (fun HT_ HW_ => ?_); generalize wr.drew = w37 at HO_1 HO_5 HK HB hx198_0 hx199_0 hHeld ⊢; refine pure_ (i := 0) (N := some 39) (v := ?_) (a' := ?_) #[t_,f_,f_,f_,f_,f_,f_,f_,f_,f_,f_] rfl rfl (any_of HT_.out z7_) (fun _ _ _ h => h) (Or.inl ⟨by rfl, ?_⟩) ?_ ?_; rotate_left
                        · intro w'; go_simp; with_reducible rfl
                        rotate_left
                        · simp only [Act.put, List.setIfInBounds_toArray, List.set_cons_zero, List.set_cons_succ, i64_w, i32_w]; rfl
                        refine pure_ (i := 1) (N := some 40) (v := ?_) (a' := ?_) #[t_,t_,f_,f_,f_,f_,f_,f_,f_,f_,f_] rfl rfl (any_of HT_.out z7_) (fun _ _ _ h => h) (Or.inl ⟨by rfl, ?_⟩) ?_ ?_; rotate_left
                        · intro w'; go_simp; with_reducible rfl
                        rotate_left
                        · simp only [Act.put, List.setIfInBounds_toArray, List.set_cons_zero, List.set_cons_succ, i64_w, i32_w]; rfl
                        refine pure_ (i := 2) (N := some 41) (v := ?_) (a' := ?_) #[t_,t_,t_,f_,f_,f_,f_,f_,f_,f_,f_] rfl rfl (any_of HT_.out z7_) (fun _ _ _ h => h) (Or.inl ⟨by rfl, ?_⟩) ?_ ?_; rotate_left
                        · intro w'; go_simp; with_reducible rfl
                        rotate_left
                        · simp only [Act.put, List.setIfInBounds_toArray, List.set_cons_zero, List.set_cons_succ, i64_w, i32_w]; rfl
                        refine pure_ (i := 5) (N := some 44) (v := ?_) (a' := ?_) #[t_,t_,t_,f_,f_,t_,f_,f_,f_,f_,f_] rfl rfl (any_of HT_.out z7_) (fun _ _ _ h => h) (Or.inl ⟨by rfl, ?_⟩) ?_ ?_; rotate_left
                        · intro w'; go_simp; with_reducible rfl
                        rotate_left
                        · simp only [Act.put, List.setIfInBounds_toArray, List.set_cons_zero, List.set_cons_succ, i64_w, i32_w]; rfl
                        refine pure_ (i := 6) (N := some 45) (v := ?_) (a' := ?_) #[t_,t_,t_,f_,f_,t_,t_,f_,f_,f_,f_] rfl rfl (any_of HT_.out z7_) (fun _ _ _ h => h) (Or.inl ⟨by rfl, ?_⟩) ?_ ?_; rotate_left
                        · intro w'; go_simp; with_reducible rfl
                        rotate_left
                        · simp only [Act.put, List.setIfInBounds_toArray, List.set_cons_zero, List.set_cons_succ, i64_w, i32_w]; rfl
                        refine pure_ (i := 7) (N := some 46) (v := ?_) (a' := ?_) #[t_,t_,t_,f_,f_,t_,t_,t_,f_,f_,f_] rfl rfl (any_of HT_.out z7_) (fun _ _ _ h => h) (Or.inl ⟨by rfl, ?_⟩) ?_ ?_; rotate_left
                        · intro w'; go_simp; with_reducible rfl
                        rotate_left
                        · simp only [Act.put, List.setIfInBounds_toArray, List.set_cons_zero, List.set_cons_succ, i64_w, i32_w]; rfl
                        refine take_ (i := 3) (N := some 42) (v := ?_) (a' := ?_) #[t_,t_,t_,t_,f_,t_,t_,t_,f_,f_,f_] rfl rfl (take_ofW HT_.out HW_.out z7_) (fun _ _ _ h => h) (Or.inl ⟨by rfl, ?_⟩) hHeld ?_ ?_; rotate_left
                        · rintro w' ⟨s0, s1⟩; go_simp; with_reducible rfl
                        rotate_left
                        · simp only [Act.put, List.setIfInBounds_toArray, List.set_cons_zero, List.set_cons_succ, i64_w, i32_w]; rfl
                        refine pure_ (i := 4) (N := some 43) (v := ?_) (a' := ?_) #[t_,t_,t_,t_,t_,t_,t_,t_,f_,f_,f_] rfl rfl (any_of HT_.out z7_) (fun _ _ _ h => h) (Or.inl ⟨by rfl, ?_⟩) ?_ ?_; rotate_left
                        · intro w'; go_simp; with_reducible rfl
                        rotate_left
                        · simp only [Act.put, List.setIfInBounds_toArray, List.set_cons_zero, List.set_cons_succ, i64_w, i32_w]; rfl
                        refine take_ (i := 8) (N := some 47) (v := ?_) (a' := ?_) #[t_,t_,t_,t_,t_,t_,t_,t_,t_,f_,f_] rfl rfl (take_ofW HT_.out HW_.out z7_) (fun _ _ _ h => h) (Or.inl ⟨by rfl, ?_⟩) hHeld ?_ ?_; rotate_left
                        · rintro w' ⟨s0, s1⟩; go_simp; with_reducible rfl
                        rotate_left
                        · simp only [Act.put, List.setIfInBounds_toArray, List.set_cons_zero, List.set_cons_succ, i64_w, i32_w]; rfl
                        refine one_ (i := 9) (N := some 48) #[t_,t_,t_,t_,t_,t_,t_,t_,t_,t_,f_] rfl rfl (one_of HT_.out z7_) (by decide) (fun K hK => ?_); refine goes_ Tryd.func45 z7_ rfl #[.int .i64 (wrap64 (-(rd x5_1 x6_2))), .int .i64 (rd x5_1 x7_2)] (by rfl) rfl rfl z2_ ?_; (with_reducible refine (spec_l00Min.calls (wrap64 (-(rd x5_1 x6_2))) (rd x5_1 x7_2) t200 _ A34.out).mono ?_); rintro e w38 ⟨rfl, hb⟩; have HS0_ := (hb.cell (World.block_lt_of_cell? _ _ (hHeld.1))).trans (hHeld.1); have HS1_ := (hb.cell (World.block_lt_of_cell? _ _ (hHeld.2))).trans (hHeld.2); refine ⟨_, rfl, ?_⟩; replace HO_1 := Aside0.mk (Kd.R_below z27_ hb); replace HO_5 := Aside0.mk (Kd.R_below z16_ hb); replace HK := Aside0.mk (Kept.below (S := (fun k_ => P1_ k_)) z14_ hb); replace HB := Aside0.mk (below_step z0_ hb); (try clear hb); refine hK.out _ _ ⟨HS0_, HS1_⟩ (fun hHeld => ?_); clear hK K; refine norm_ (a' := ?_) ?_ ?_; rotate_left
                        · show Act.put _ (some 48) _ = _; simp only [Act.put, List.setIfInBounds_toArray, List.set_cons_zero, List.set_cons_succ, i64_w, i32_w]; rfl
                        refine pure_ (i := 10) (N := some 9) (v := ?_) (a' := ?_) #[t_,t_,t_,t_,t_,t_,t_,t_,t_,t_,t_] rfl rfl (any_of HT_.out z7_) (fun _ _ _ h => h) (Or.inl ⟨by rfl, ?_⟩) ?_ ?_; rotate_left
                        · intro w'; go_simp; with_reducible rfl
                        rotate_left
                        · simp only [Act.put, List.setIfInBounds_toArray, List.set_cons_zero, List.set_cons_succ, i64_w, i32_w]; rfl
                        refine done_ (done_of HT_.out z7_) ?_; (try go_wp2); go_ret; exact ⟨_, z6_, z27_, z0_, z14_⟩
                      · rw [if_neg c35] at H; have c35b0 : (t200 == 0) = false := beq_eq_false_iff_ne.mpr c35; have c35b1 : (t200 != 0) = true := bne_iff_ne.mpr c35; obtain ⟨y202, hy202⟩ : ∃ y_ : List Int, y_ = (x5_1.set (x6_2 : Int).toNat (wrap64 ((rd x5_1 x6_2) + t200))) := ⟨_, rfl⟩; (replace H : (if x1_1.length < 5864062014805 then (spec_l02Settle.l0 k2 (x1_1 ++ [(⟨x6_2, x7_2, t200⟩ : S55)]) (y202.set (x7_2 : Int).toNat (wrap64 ((rd y202 x7_2) - t200)))) else (none)) = some r := by first | (rw [hy202]; with_reducible exact H) | (have H2_ := (Option.bind_some _ _).symm.trans H; rw [hy202]; with_reducible exact H2_) | (have H2_ := (Option.bind_some _ _).symm.trans H; with_reducible exact H2_) | with_reducible exact H | (rw [hy202]; exact H) | exact H); have Ny202 := Aside0.mk hy202; clear hy202; obtain ⟨y204, hy204⟩ : ∃ y_ : List Int, y_ = (y202.set (x7_2 : Int).toNat (wrap64 ((rd y202 x7_2) - t200))) := ⟨_, rfl⟩; (replace H : (if x1_1.length < 5864062014805 then (spec_l02Settle.l0 k2 (x1_1 ++ [(⟨x6_2, x7_2, t200⟩ : S55)]) y204) else (none)) = some r := by first | (rw [hy204]; with_reducible exact H) | (have H2_ := (Option.bind_some _ _).symm.trans H; rw [hy204]; with_reducible exact H2_) | (have H2_ := (Option.bind_some _ _).symm.trans H; with_reducible exact H2_) | with_reducible exact H | (rw [hy204]; exact H) | exact H); have Ny204 := Aside0.mk hy204; clear hy204; by_cases c41 : x1_1.length < 5864062014805
                        · rw [if_pos c41] at H; have LMc41 := Aside0.mk c41; clear c41; obtain ⟨y205, hy205⟩ : ∃ y_ : List (S55), y_ = (x1_1 ++ [(⟨x6_2, x7_2, t200⟩ : S55)]) := ⟨_, rfl⟩; (replace H : (spec_l02Settle.l0 k2 y205 y204) = some r := by first | (rw [hy205]; with_reducible exact H) | (have H2_ := (Option.bind_some _ _).symm.trans H; rw [hy205]; with_reducible exact H2_) | (have H2_ := (Option.bind_some _ _).symm.trans H; with_reducible exact H2_) | with_reducible exact H | (rw [hy205]; exact H) | exact H); have Ny205 := Aside0.mk hy205; clear hy205; have H' := Aside0.mk H; clear H; obtain ⟨Ao42, co42, eo42⟩ := Kd.R_slice HO_5.out; subst eo42; (try go_wp2); replace HO_1 := Aside0.mk (Kd.R_drew HO_1.out); replace HO_5 := Aside0.mk (Kd.R_drew HO_5.out); replace HK := Aside0.mk (Kept.drew HK.out); replace HB := Aside0.mk (below_drew1 HB.out); have p198 : 0 ≤ (x6_2 : Int) := of_decide_eq_true z1_; have q198 : x6_2 < (x5_1.length : Int) := of_decide_eq_true z1_; obtain ⟨ad198, e198, hx198_0⟩ := Kd.at_int (Kd.R_reads' HO_5.out).2.2 x6_2 p198 q198; cases e198; replace p198 := eq_true p198; replace q198 := eq_true q198; have p199 : 0 ≤ (x7_2 : Int) := of_decide_eq_true z1_; have q199 : x7_2 < (x5_1.length : Int) := of_decide_eq_true z1_; obtain ⟨ad199, e199, hx199_0⟩ := Kd.at_int (Kd.R_reads' HO_5.out).2.2 x7_2 p199 q199; obtain rfl : ad198 = ad199 := (by injection e199); replace p199 := eq_true p199; replace q199 := eq_true q199; refine start_ (n := 11) (S := fun w' => w'.cell? (ad198.add (x6_2).toNat) = some (.int .i64 (rd x5_1 x6_2)) ∧ w'.cell? (ad198.add (x7_2).toNat) = some (.int .i64 (rd x5_1 x7_2))) (ds := []) #[f_,f_,f_,f_,f_,f_,f_,f_,f_,f_,f_] z7_ rfl rfl ⟨hx198_0, hx199_0⟩ (fun hHeld => ?_); refine with_tabW spec_l02Settle.tab11 spec_l02Settle.bits11 (fun HT_ HW_ => ?_); generalize wr.drew = w43 at HO_1 HO_5 HK HB hx198_0 hx199_0 hHeld ⊢; refine pure_ (i := 0) (N := some 39) (v := ?_) (a' := ?_) #[t_,f_,f_,f_,f_,f_,f_,f_,f_,f_,f_] rfl rfl (any_of HT_.out z7_) (fun _ _ _ h => h) (Or.inl ⟨by rfl, ?_⟩) ?_ ?_; rotate_left
                          · intro w'; go_simp; with_reducible rfl
                          rotate_left
                          · simp only [Act.put, List.setIfInBounds_toArray, List.set_cons_zero, List.set_cons_succ, i64_w, i32_w]; rfl
                          refine pure_ (i := 1) (N := some 40) (v := ?_) (a' := ?_) #[t_,t_,f_,f_,f_,f_,f_,f_,f_,f_,f_] rfl rfl (any_of HT_.out z7_) (fun _ _ _ h => h) (Or.inl ⟨by rfl, ?_⟩) ?_ ?_; rotate_left
                          · intro w'; go_simp; with_reducible rfl
                          rotate_left
                          · simp only [Act.put, List.setIfInBounds_toArray, List.set_cons_zero, List.set_cons_succ, i64_w, i32_w]; rfl
                          refine pure_ (i := 2) (N := some 41) (v := ?_) (a' := ?_) #[t_,t_,t_,f_,f_,f_,f_,f_,f_,f_,f_] rfl rfl (any_of HT_.out z7_) (fun _ _ _ h => h) (Or.inl ⟨by rfl, ?_⟩) ?_ ?_; rotate_left
                          · intro w'; go_simp; with_reducible rfl
                          rotate_left
                          · simp only [Act.put, List.setIfInBounds_toArray, List.set_cons_zero, List.set_cons_succ, i64_w, i32_w]; rfl
                          refine pure_ (i := 5) (N := some 44) (v := ?_) (a' := ?_) #[t_,t_,t_,f_,f_,t_,f_,f_,f_,f_,f_] rfl rfl (any_of HT_.out z7_) (fun _ _ _ h => h) (Or.inl ⟨by rfl, ?_⟩) ?_ ?_; rotate_left
                          · intro w'; go_simp; with_reducible rfl
                          rotate_left
                          · simp only [Act.put, List.setIfInBounds_toArray, List.set_cons_zero, List.set_cons_succ, i64_w, i32_w]; rfl
                          refine pure_ (i := 6) (N := some 45) (v := ?_) (a' := ?_) #[t_,t_,t_,f_,f_,t_,t_,f_,f_,f_,f_] rfl rfl (any_of HT_.out z7_) (fun _ _ _ h => h) (Or.inl ⟨by rfl, ?_⟩) ?_ ?_; rotate_left
                          · intro w'; go_simp; with_reducible rfl
                          rotate_left
                          · simp only [Act.put, List.setIfInBounds_toArray, List.set_cons_zero, List.set_cons_succ, i64_w, i32_w]; rfl
                          refine pure_ (i := 7) (N := some 46) (v := ?_) (a' := ?_) #[t_,t_,t_,f_,f_,t_,t_,t_,f_,f_,f_] rfl rfl (any_of HT_.out z7_) (fun _ _ _ h => h) (Or.inl ⟨by rfl, ?_⟩) ?_ ?_; rotate_left
                          · intro w'; go_simp; with_reducible rfl
                          rotate_left
                          · simp only [Act.put, List.setIfInBounds_toArray, List.set_cons_zero, List.set_cons_succ, i64_w, i32_w]; rfl
                          refine take_ (i := 3) (N := some 42) (v := ?_) (a' := ?_) #[t_,t_,t_,t_,f_,t_,t_,t_,f_,f_,f_] rfl rfl (take_ofW HT_.out HW_.out z7_) (fun _ _ _ h => h) (Or.inl ⟨by rfl, ?_⟩) hHeld ?_ ?_; rotate_left
                          · rintro w' ⟨s0, s1⟩; go_simp; with_reducible rfl
                          rotate_left
                          · simp only [Act.put, List.setIfInBounds_toArray, List.set_cons_zero, List.set_cons_succ, i64_w, i32_w]; rfl
                          refine pure_ (i := 4) (N := some 43) (v := ?_) (a' := ?_) #[t_,t_,t_,t_,t_,t_,t_,t_,f_,f_,f_] rfl rfl (any_of HT_.out z7_) (fun _ _ _ h => h) (Or.inl ⟨by rfl, ?_⟩) ?_ ?_; rotate_left
                          · intro w'; go_simp; with_reducible rfl
                          rotate_left
                          · simp only [Act.put, List.setIfInBounds_toArray, List.set_cons_zero, List.set_cons_succ, i64_w, i32_w]; rfl
                          refine take_ (i := 8) (N := some 47) (v := ?_) (a' := ?_) #[t_,t_,t_,t_,t_,t_,t_,t_,t_,f_,f_] rfl rfl (take_ofW HT_.out HW_.out z7_) (fun _ _ _ h => h) (Or.inl ⟨by rfl, ?_⟩) hHeld ?_ ?_; rotate_left
                          · rintro w' ⟨s0, s1⟩; go_simp; with_reducible rfl
                          rotate_left
                          · simp only [Act.put, List.setIfInBounds_toArray, List.set_cons_zero, List.set_cons_succ, i64_w, i32_w]; rfl
                          refine one_ (i := 9) (N := some 48) #[t_,t_,t_,t_,t_,t_,t_,t_,t_,t_,f_] rfl rfl (one_of HT_.out z7_) (by decide) (fun K hK => ?_); refine goes_ Tryd.func45 z7_ rfl #[.int .i64 (wrap64 (-(rd x5_1 x6_2))), .int .i64 (rd x5_1 x7_2)] (by rfl) rfl rfl z2_ ?_; (with_reducible refine (spec_l00Min.calls (wrap64 (-(rd x5_1 x6_2))) (rd x5_1 x7_2) t200 _ A34.out).mono ?_); rintro e w44 ⟨rfl, hb⟩; have HS0_ := (hb.cell (World.block_lt_of_cell? _ _ (hHeld.1))).trans (hHeld.1); have HS1_ := (hb.cell (World.block_lt_of_cell? _ _ (hHeld.2))).trans (hHeld.2); refine ⟨_, rfl, ?_⟩; replace HO_1 := Aside0.mk (Kd.R_below z27_ hb); replace HO_5 := Aside0.mk (Kd.R_below z16_ hb); replace HK := Aside0.mk (Kept.below (S := (fun k_ => P1_ k_)) z14_ hb); replace HB := Aside0.mk (below_step z0_ hb); (try clear hb); refine hK.out _ _ ⟨HS0_, HS1_⟩ (fun hHeld => ?_); clear hK K; refine norm_ (a' := ?_) ?_ ?_; rotate_left
                          · show Act.put _ (some 48) _ = _; simp only [Act.put, List.setIfInBounds_toArray, List.set_cons_zero, List.set_cons_succ, i64_w, i32_w]; rfl
                          refine pure_ (i := 10) (N := some 9) (v := ?_) (a' := ?_) #[t_,t_,t_,t_,t_,t_,t_,t_,t_,t_,t_] rfl rfl (any_of HT_.out z7_) (fun _ _ _ h => h) (Or.inl ⟨by rfl, ?_⟩) ?_ ?_; rotate_left
                          · intro w'; go_simp; with_reducible rfl
                          rotate_left
                          · simp only [Act.put, List.setIfInBounds_toArray, List.set_cons_zero, List.set_cons_succ, i64_w, i32_w]; rfl
                          refine done_ (done_of HT_.out z7_) ?_; have p201 : 0 ≤ (x6_2 : Int) := of_decide_eq_true z1_; have q201 : x6_2 < (x5_1.length : Int) := of_decide_eq_true z1_; obtain ⟨ad201, e201, hx201_0⟩ := Kd.at_int (Kd.R_reads' HO_5.out).2.2 x6_2 p201 q201; obtain rfl : ad198 = ad201 := (by injection e201); replace p201 := eq_true p201; replace q201 := eq_true q201; have p39 : 0 ≤ (x6_2 : Int) := of_decide_eq_true z1_; have q39 : (x6_2 : Int) < ((x5_1.length : Int) : Int) := of_decide_eq_true z1_; obtain ⟨go39, co39, eo39, gb39, gl39, cl39, HG39⟩ := Kd.R_form HO_5.out (by omega); (first | cases eo39 | (injection eo39 with ea_ en_ ec_; (first | subst ea_ | (injection ea_ with ea_; subst ea_)); subst ec_; clear en_)); have GB39 := Aside0.mk gb39; have GG39 := Aside0.mk HG39; clear gb39 gl39 HG39; have HMgo39 := Aside0.mk (show (P1_ go39 ∨ w.heap.size ≤ go39) from (HO_5.out.1 _ rfl)); (first | simp only [add_plain] at hx198_0 | skip); (first | simp only [add_plain] at hx199_0 | skip); (first | simp only [add_plain] at hx201_0 | skip); obtain ⟨hx39_0, hf39_0⟩ := Kd.R_celln 0 HO_5.out (x6_2 : Int) p39 q39; replace p39 := eq_true p39; replace q39 := eq_true q39; obtain ⟨hy45_, hz45_⟩ := Kd.R_celln 0 HO_5.out (x6_2 : Int) (of_decide_eq_true z1_) (of_decide_eq_true z1_); have HP45 := Kd.R_putg HO_5.out (x6_2 : Int) (wrap64 ((rd x5_1 x6_2) + t200)); (try go_wp2_with (first | ((with_reducible refine gate_store (t := 2) (p := 58) rfl ?_); refine store_event (t := 2) (p := 58) (v := ?vo_w46) (w1 := (w44.setCell ⟨go39, (x6_2 : Int).toNat, none⟩ (.int .i64 (wrap64 ((rd x5_1 x6_2) + t200))))) ?hg ?ho ?hn ?hr ?_; (case ho => rfl); (case hg => rfl); (case hn => rfl); (case hr => first | (go_simp; done) | (go_simp; rfl)); intro w46 hw; have hg : w44.grownBy w46 (some go39) := (by rw [hw]; exact HP45.2); have hp_ : Kd.R (Kd.int .i64) 2 w46 w0.heap.size (fun k_ => (P1_ k_ ∨ w.heap.size ≤ k_)) (.slice (some ⟨go39, 0, none⟩) x5_1.length co42) y202 := (by rw [hw, Ny202.out]; exact HP45.1); clear HP45; replace HO_1 := Aside0.mk (Kd.R_over' (v := (.slice (some ⟨go39, 0, none⟩) x5_1.length co42)) z27_ (Kd.R_typed HO_5.out) (by decide) hg); replace HB := Aside0.mk ((by rw [hw]; exact below_set (HB.out) GB39.out : Below w0.heap.size w0 w46)); replace HK := Aside0.mk (Kept.of_grown (S := (fun k_ => P1_ k_)) hg z14_ (fun k_ e_ => (HO_5.out.1 k_ e_))); replace HO_5 := Aside0.mk (hp_); clear hg hw hp_; have p203 : 0 ≤ (x7_2 : Int) := of_decide_eq_true z1_; have q203 : x7_2 < (y202.length : Int) := (by have h_ : (x7_2 : Int) < ((x5_1.length : Int) : Int) := of_decide_eq_true z1_; first | (have e_ := (Kd.R_reads' HO_5.out).1; omega) | simpa only [Ny202.out, List.length_set] using h_); have ql203 : ((x7_2 : Int) < ((x5_1.length : Int) : Int)) = True := eq_true (of_decide_eq_true z1_); obtain ⟨ad203, e203, hx203_0⟩ := Kd.at_int (Kd.R_reads' HO_5.out).2.2 x7_2 p203 q203; obtain rfl : (⟨go39, 0, none⟩ : Addr) = ad203 := (by injection e203); (first | simp only [add_plain] at hx203_0 | simp only [add_at] at hx203_0 | simp only [Addr.add, Nat.zero_add] at hx203_0 | skip); replace p203 := eq_true p203; replace q203 := eq_true q203; have p40 : 0 ≤ (x7_2 : Int) := of_decide_eq_true z1_; have q40 : (x7_2 : Int) < ((x5_1.length : Int) : Int) := of_decide_eq_true z1_; obtain ⟨hx40_0, hf40_0⟩ := Kd.R_celln 0 HO_5.out (x7_2 : Int) p40 q40; replace p40 := eq_true p40; replace q40 := eq_true q40; obtain ⟨hy47_, hz47_⟩ := Kd.R_celln 0 HO_5.out (x7_2 : Int) (of_decide_eq_true z1_) (of_decide_eq_true z1_); have HP47 := Kd.R_putg HO_5.out (x7_2 : Int) (wrap64 ((rd y202 x7_2) - t200))) | ((with_reducible refine gate_store (t := 2) (p := 65) rfl ?_); refine store_event (t := 2) (p := 65) (v := ?vo_w48) (w1 := (w46.setCell ⟨go39, (x7_2 : Int).toNat, none⟩ (.int .i64 (wrap64 ((rd y202 x7_2) - t200))))) ?hg ?ho ?hn ?hr ?_; (case ho => rfl); (case hg => rfl); (case hn => rfl); (case hr => first | (go_simp; done) | (go_simp; rfl)); intro w48 hw; have hg : w46.grownBy w48 (some go39) := (by rw [hw]; exact HP47.2); have hp_ : Kd.R (Kd.int .i64) 2 w48 w0.heap.size (fun k_ => (P1_ k_ ∨ w.heap.size ≤ k_)) (.slice (some ⟨go39, 0, none⟩) x5_1.length co42) y204 := (by rw [hw, Ny204.out]; exact HP47.1); clear HP47; replace HO_1 := Aside0.mk (Kd.R_over' (v := (.slice (some ⟨go39, 0, none⟩) x5_1.length co42)) z27_ (Kd.R_typed HO_5.out) (by decide) hg); replace HB := Aside0.mk ((by rw [hw]; exact below_set (HB.out) GB39.out : Below w0.heap.size w0 w48)); replace HK := Aside0.mk (Kept.of_grown (S := (fun k_ => P1_ k_)) hg z14_ (fun k_ e_ => (HO_5.out.1 k_ e_))); replace HO_5 := Aside0.mk (hp_); clear hg hw hp_) | ((with_reducible refine gate_builtin (b := .append) (xs := #[.tmp 66, .tmp 71]) rfl ?_); at_builtin; refine Kd.R_append k55 (w0 := w0) w0.heap.size rfl (.tmp 66) (.tmp 71) 28 55 (.agg #[(.int .i64 0), (.int .i64 0), (.int .i64 0)]) 24 rfl Tryd.underlying28 info55 rfl (by decide) (by omega) u1 x1_1 (⟨x6_2, x7_2, t200⟩ : S55) [.int .i64 x6_2, .int .i64 x7_2, .int .i64 t200] (fun k_ => (P1_ k_ ∨ w.heap.size ≤ k_)) (fun _ => False) rfl rfl ?aP (fun _ hk => hk.elim) ?aF ?aO ?aB ?aS ?aL ?_; (case aP => exact k55_mkM _ _ _ (⟨x6_2, x7_2, t200⟩ : S55)); (case aB => exact z0_); (case aF => exact (fun k_ hk => (.inr (Nat.le_trans (by first | exact HK.out.1 | exact (show Kept w _ (fun k_ => P1_ k_) from z14_).1) hk)))); (case aO => exact z27_); (case aS => exact (below_size z0_)); (case aL => have := LMc41.out; omega); intro v206 w49 ho hb hg hat; rw [← Ny205.out] at ho; replace HO_5 := Aside0.mk (Kd.R_over' z16_ (Kd.R_typed z27_) (by decide) hg); replace HB := Aside0.mk (hb); replace HK := Aside0.mk (Kept.of_grown (S := (fun k_ => P1_ k_)) hg z14_ (fun k_ e_ => (HO_1.out.1 k_ e_))); have HO207 := Aside0.mk (ho); clear HO_1; clear ho hb hg hat))); go_roundg k2
                          case measure => have := HK1.out; have := HK2.out; omega
                          case rel => exact ⟨(y205), (y204), H', ⟨z36_⟩, ⟨by (with_reducible repeat (first | apply Kd.R_alloc | apply Kd.R_drewN | apply Kd.R_drew)); exact HO207.out⟩, ⟨z16_⟩, ⟨z14_⟩, ⟨z0_⟩⟩
                        · rw [if_neg c41] at H; exact absurd H (by simp)
                    · rw [if_neg c33] at H; exact absurd H (by simp)
                  · rw [if_neg c32] at H; exact absurd H (by simp)
                · rw [if_neg c31] at H; exact absurd H (by simp)
              · rw [if_neg c30] at H; exact absurd H (by simp)
  · rw [if_neg c3] at H; exact absurd H (by simp)

end Go.Proofs.YtcghnnhhgngddaaDoor.MSettled
