-- by a program of this session, for this claim
import Derived.Test.YtofcgkcpkngocaaMJoinDebtsx0
import Derived.Test.YtofcgkcpkngocaaMJoinDebtsx2
import Derived.Test.YtofcgkcpkngocaaMJoinDebtsx3
namespace Go.Proofs.Ytofcgkcpkngocaa.MJoinDebts
open Go.RowKit Go.Proofs.YtofcgkcpkngocaaW.PrintWords Go.Proofs.YtofcgkcpkngocaaW.PrintLast Go.Proofs.YtofcgkcpkngocaaW.PrintMore
attribute [local go_sem] max2_int min2_int max_two min_two max_three min_three max_four min_four   -- for this text's walks alone
set_option linter.unusedVariables false
set_option linter.unusedSimpArgs false

/-! ### spec_l02List: function 60 -/
mutual
def spec_l02List.l0 : Nat → List (S65) → Int → Vector Int 256 → Option ((List (S65)) × Int × Vector Int 256)
  | 0, _, _, _ => none
  | k + 1, x4, x5, x1000 => if x5 < 16 then (spec_l02List.l1 k x4 x5 0 x1000) else (if (x4.length : Int) > 60 then (some ((([] : List (S65))), 3, x1000)) else (some (x4, 0, x1000)))
def spec_l02List.l1 : Nat → List (S65) → Int → Int → Vector Int 256 → Option ((List (S65)) × Int × Vector Int 256)
  | 0, _, _, _, _ => none
  | k + 1, x4, x5, x6, x1000 => if x6 < 16 then (if 0 ≤ x5 then (if x5 < 16 then (if 0 ≤ x6 then (if (Arr.vrd2 16 x1000 x5 x6) > 100000000 then (some ((([] : List (S65))), 3, x1000)) else (if (Arr.vrd2 16 x1000 x5 x6) > 0 then (if x4.length < 5864062014805 then (spec_l02List.l1 k (x4 ++ [(⟨x5, x6, Arr.vrd2 16 x1000 x5 x6⟩ : S65)]) x5 (wrap64 (x6 + 1)) x1000) else (none)) else (spec_l02List.l1 k x4 x5 (wrap64 (x6 + 1)) x1000))) else (none)) else (none)) else (none)) else (spec_l02List.l0 k x4 (wrap64 (x5 + 1)) x1000)
end
def spec_l02List.f (k : Nat) (s0_0 : Vector Int 256) : Option ((List (S65)) × Int × Vector Int 256) := spec_l02List.l0 k (([] : List (S65))) 0 s0_0
theorem spec_l02List.mono_l : ∀ k, (∀ y0 y1 y2, LeO (spec_l02List.l0 k y0 y1 y2) (spec_l02List.l0 (k + 1) y0 y1 y2)) ∧ (∀ y0 y1 y2 y3, LeO (spec_l02List.l1 k y0 y1 y2 y3) (spec_l02List.l1 (k + 1) y0 y1 y2 y3))
  | 0 => ⟨fun _ _ _ r h => by simp [spec_l02List.l0] at h, fun _ _ _ _ r h => by simp [spec_l02List.l1] at h⟩
  | k + 1 => by
    obtain ⟨ih0, ih1⟩ := spec_l02List.mono_l k
    refine ⟨?_, ?_⟩
    · intro y0 y1 y2
      unfold spec_l02List.l0
      repeat' first
      | (with_reducible exact ih0 _ _ _)
      | (with_reducible exact ih1 _ _ _ _)
      | (with_reducible exact LeO.refl _)
      | (with_reducible exact LeO.none _)
      | (with_reducible refine LeO.ite ?_ ?_)
      | (with_reducible refine LeO.bind ?_ (fun _ => ?_))
      | exact ih0 _ _ _
      | exact ih1 _ _ _ _
      | exact LeO.none _
      | refine LeO.ite ?_ ?_
      | refine LeO.bind ?_ (fun _ => ?_)
    · intro y0 y1 y2 y3
      unfold spec_l02List.l1
      repeat' first
      | (with_reducible exact ih0 _ _ _)
      | (with_reducible exact ih1 _ _ _ _)
      | (with_reducible exact LeO.refl _)
      | (with_reducible exact LeO.none _)
      | (with_reducible refine LeO.ite ?_ ?_)
      | (with_reducible refine LeO.bind ?_ (fun _ => ?_))
      | exact ih0 _ _ _
      | exact ih1 _ _ _ _
      | exact LeO.none _
      | refine LeO.ite ?_ ?_
      | refine LeO.bind ?_ (fun _ => ?_)
theorem spec_l02List.mono : ∀ a0 k, LeO (spec_l02List.f k a0) (spec_l02List.f (k + 1) a0) := by
  intro a0 k
  obtain ⟨ih0, ih1⟩ := spec_l02List.mono_l k
  unfold spec_l02List.f
  repeat' first
      | (with_reducible exact ih0 _ _ _)
      | (with_reducible exact ih1 _ _ _ _)
      | (with_reducible exact LeO.refl _)
      | (with_reducible exact LeO.none _)
      | (with_reducible refine LeO.ite ?_ ?_)
      | (with_reducible refine LeO.bind ?_ (fun _ => ?_))
      | exact ih0 _ _ _
      | exact ih1 _ _ _ _
      | exact LeO.none _
      | refine LeO.ite ?_ ?_
      | refine LeO.bind ?_ (fun _ => ?_)
set_option maxHeartbeats 8000000 in
set_option maxRecDepth 100000 in
theorem spec_l02List.calls (k : Nat) (g : Nat) (s0_0 : Vector Int 256) (r1 : List (S65)) (r2 : Int) (r3 : Vector Int 256) (w0 w : World) (hI : IsS92 w0 w g s0_0) (hB : Below w0.heap.size w0 w) (h : spec_l02List.f k s0_0 = some (r1, r2, r3)) :
    Calls Try.prog 60 #[.pointer (some ⟨g, 0, none⟩)] w fun e w' => ∃ v0_ : Value, e = .returned (.tuple #[v0_, .int .i64 r2]) ∧ Kd.R k65 65 w' w.heap.size (fun _ => True) v0_ r1 ∧ IsS92 w0 w' g r3 ∧ Below w0.heap.size w0 w' ∧ KeepBut w w' g none := by
  have hu65 := Try.underlying65
  have HI0 := Aside0.mk hI
  have HK := Aside0.mk (KeepBut.refl w g none)
  have HL := Aside0.mk hB.size
  clear hI
  have HW0 := Aside0.mk hB.size
  have HB := Aside0.mk hB
  clear hB
  have H : (spec_l02List.l0 k (([] : List (S65))) 0 s0_0) = some (r1, r2, r3) := h
  clear h
  obtain ⟨y133, hy133⟩ : ∃ y_ : List (S65), y_ = (([] : List (S65))) := ⟨_, rfl⟩
  replace H : (spec_l02List.l0 k y133 0 s0_0) = some (r1, r2, r3) := by first | (rw [hy133]; with_reducible exact H) | (have H2_ := (Option.bind_some _ _).symm.trans H; rw [hy133]; with_reducible exact H2_) | (have H2_ := (Option.bind_some _ _).symm.trans H; with_reducible exact H2_) | with_reducible exact H | (rw [hy133]; exact H) | exact H
  have Ny133 := Aside0.mk hy133
  clear hy133
  have H' := Aside0.mk H
  clear H
  go_enter Try.func60, Try.ntmps60
  go_wp2_with (first | ((with_reducible refine gate_dst (N := 7) rfl ?_); refine Kd.R_lit k65 _ 65 ?hg (N := 7) ?hd (xs := ([] : List (S65))) (inner := []) (ok := fun _ => True) (okp := fun _ => True) ?hr ?hp (fun _ hk => hk) trivial (Below.refl _ _) (Nat.le_refl _) (by simp) ?_; (case hd => rfl); (case hg => rfl); (case hr => first | (go_simp; done) | (go_simp; rfl)); (case hp => exact (Reps.none _ _)); intro v134 w2 ho3 hb hg_ hnew_; clear hg_ hnew_; (first | rw [← Ny133.out] at ho3 | (simp only [Int.reduceToNat] at ho3; rw [← Ny133.out] at ho3)); have n0_ := Aside0.mk (Kd.R_lower ho3 (keep_size (w := w) (g := g) (row := none) (by repeat (first | (with_reducible first | exact HK.out | apply KeepBut.set_ | apply keep_drewN | apply keep_drew | apply keep_alloc) | exact HK.out)))); have n1_ := Aside0.mk (IsS92.below (by repeat (first | (with_reducible first | exact HI0.out | apply IsS92.alloc | apply IsS92.drewN | apply IsS92.drew | apply IsS92.set_0) | exact HI0.out)) hb); have n2_ := Aside0.mk (KeepBut.trans (by repeat (first | (with_reducible first | exact HK.out | apply KeepBut.set_ | apply keep_drewN | apply keep_drew | apply keep_alloc) | exact HK.out)) (KeepBut.of_below hb g none) (.inl rfl)); have n3_ := Aside0.mk (below_step (by repeat (first | (with_reducible first | exact HB.out | apply below_alloc | apply pw_below_drewN | apply below_drew1 | refine below_set ?_ (IsS92.ge HI0.out)) | exact HB.out)) hb); clear HI0; clear HK; clear HB; have HO135 := n0_; have HI0 := n1_; have HK := n2_; have HB := n3_; clear n0_ n1_ n2_ n3_; clear hb ho3))
  go_loopg [4, 5] k (fun kq v4 v5 w' => ∃ (x4_1 : List (S65)) (x5_1 : Int), v5 = .int .i64 x5_1 ∧ Aside0 (spec_l02List.l0 kq x4_1 x5_1 s0_0 = some (r1, r2, r3)) ∧ Aside0 (kq ≤ k) ∧ Aside0 (Kd.R k65 65 w' w.heap.size (fun _ => True) v4 x4_1) ∧ Aside0 (IsS92 w0 w' g s0_0) ∧ Aside0 (KeepBut w w' g none) ∧ Aside0 (Below w0.heap.size w0 w'))
  case atStart => exact ⟨(y133), (0), (by first | rfl | (simp; done) | (simp [*]; done)), H', ⟨Nat.le_refl _⟩, ⟨by (with_reducible repeat (first | apply Kd.R_alloc | apply Kd.R_drewN | apply Kd.R_drew)); exact HO135.out⟩, ⟨by repeat (first | (with_reducible first | exact HI0.out | apply IsS92.alloc | apply IsS92.drewN | apply IsS92.drew | apply IsS92.set_0) | exact HI0.out)⟩, ⟨by repeat (first | (with_reducible first | exact HK.out | apply KeepBut.set_ | apply keep_drewN | apply keep_drew | apply keep_alloc) | exact HK.out)⟩, ⟨by repeat (first | (with_reducible first | exact HB.out | apply below_alloc | apply pw_below_drewN | apply below_drew1 | refine below_set ?_ (IsS92.ge HI0.out)) | exact HB.out)⟩⟩
  case round =>
    clear H'
    try clear p2
    obtain ⟨x4_1, x5_1, rfl, HA, HK1, HO_4, HI0, HK, HB⟩ := hrel
    cases gk with
    | zero => exact absurd HA.out (by simp [spec_l02List.l0])
    | succ k1 =>
      have H := HA.out
      clear HA
      simp only [spec_l02List.l0] at H
      by_cases c4 : x5_1 < 16
      · rw [if_pos c4] at H
        have c4b0 : decide (x5_1 < 16) = true := decide_eq_true c4
        clear c4
        have H' := Aside0.mk H
        clear H
        go_wp2
        go_loopg [4, 6] k1 (fun kq v4 v6 w' => ∃ (x4_2 : List (S65)) (x6_2 : Int), v6 = .int .i64 x6_2 ∧ Aside0 (spec_l02List.l1 kq x4_2 x5_1 x6_2 s0_0 = some (r1, r2, r3)) ∧ Aside0 (kq ≤ k1) ∧ Aside0 (Kd.R k65 65 w' w.heap.size (fun _ => True) v4 x4_2) ∧ Aside0 (IsS92 w0 w' g s0_0) ∧ Aside0 (KeepBut w w' g none) ∧ Aside0 (Below w0.heap.size w0 w'))
        case atStart => exact ⟨(x4_1), (0), (by first | rfl | (simp; done) | (simp [*]; done)), H', ⟨Nat.le_refl _⟩, ⟨by (with_reducible repeat (first | apply Kd.R_alloc | apply Kd.R_drewN | apply Kd.R_drew)); exact HO_4.out⟩, ⟨by repeat (first | (with_reducible first | exact HI0.out | apply IsS92.alloc | apply IsS92.drewN | apply IsS92.drew | apply IsS92.set_0) | exact HI0.out)⟩, ⟨by repeat (first | (with_reducible first | exact HK.out | apply KeepBut.set_ | apply keep_drewN | apply keep_drew | apply keep_alloc) | exact HK.out)⟩, ⟨by repeat (first | (with_reducible first | exact HB.out | apply below_alloc | apply pw_below_drewN | apply below_drew1 | refine below_set ?_ (IsS92.ge HI0.out)) | exact HB.out)⟩⟩
        case round =>
          clear H'
          try clear p2
          try clear c4
          try clear c4b0
          try clear p2
          obtain ⟨x4_2, x6_2, rfl, HA, HK2, HO_4, HI0, HK, HB⟩ := hrel
          cases gk with
          | zero => exact absurd HA.out (by simp [spec_l02List.l1])
          | succ k2 =>
            have H := HA.out
            clear HA
            simp only [spec_l02List.l1] at H
            by_cases c5 : x6_2 < 16
            · rw [if_pos c5] at H
              have c5b0 : decide (x6_2 < 16) = true := decide_eq_true c5
              clear c5
              by_cases c6 : 0 ≤ x5_1
              · rw [if_pos c6] at H
                have c6b0 : decide (0 ≤ x5_1) = true := decide_eq_true c6
                clear c6
                by_cases c7 : x5_1 < 16
                · rw [if_pos c7] at H
                  have c7b0 : decide (x5_1 < 16) = true := decide_eq_true c7
                  clear c7
                  by_cases c9 : 0 ≤ x6_2
                  · rw [if_pos c9] at H
                    have c9b0 : decide (0 ≤ x6_2) = true := decide_eq_true c9
                    clear c9
                    by_cases c12 : (Arr.vrd2 16 s0_0 x5_1 x6_2) > 100000000
                    · rw [if_pos c12] at H
                      have c12b0 : decide (100000000 < (Arr.vrd2 16 s0_0 x5_1 x6_2)) = true := decide_eq_true c12
                      clear c12
                      obtain ⟨y139, hy139⟩ : ∃ y_ : List (S65), y_ = (([] : List (S65))) := ⟨_, rfl⟩
                      replace H : (some (y139, 3, s0_0)) = some (r1, r2, r3) := by first | (rw [hy139]; with_reducible exact H) | (have H2_ := (Option.bind_some _ _).symm.trans H; rw [hy139]; with_reducible exact H2_) | (have H2_ := (Option.bind_some _ _).symm.trans H; with_reducible exact H2_) | with_reducible exact H | (rw [hy139]; exact H) | exact H
                      have Ny139 := Aside0.mk hy139
                      clear hy139
                      simp only [Option.some.injEq, Prod.mk.injEq] at H
                      obtain ⟨rfl, rfl, rfl⟩ := H
                      have p8 : 0 ≤ (x5_1 : Int) := of_decide_eq_true (by first | (with_reducible assumption) | assumption)
                      have q8 : (x5_1 : Int) < 16 := of_decide_eq_true (by first | (with_reducible assumption) | assumption)
                      replace p8 := eq_true p8
                      replace q8 := eq_true q8
                      have p10 : 0 ≤ (x6_2 : Int) := of_decide_eq_true (by first | (with_reducible assumption) | assumption)
                      have q10 : (x6_2 : Int) < 16 := of_decide_eq_true (by first | (with_reducible assumption) | assumption)
                      replace p10 := eq_true p10
                      replace q10 := eq_true q10
                      have hx11 : wr.cell? ⟨g, x5_1.toNat * 16 + x6_2.toNat, none⟩ = some (.int .i64 (Arr.vrd2 16 s0_0 x5_1 x6_2)) := Arr.cellN (off := 0) (l := (Arr.arL .i64 s0_0)) ((show IsS92 w0 wr g s0_0 from by repeat (first | (with_reducible first | exact HI0.out | apply IsS92.alloc | apply IsS92.drewN | apply IsS92.drew | apply IsS92.set_0) | exact HI0.out)).1) rfl (x5_1.toNat * 16 + x6_2.toNat) (x5_1.toNat * 16 + x6_2.toNat) (by omega) (by have a0_ := of_eq_true p8; have b0_ := of_eq_true q8; have a1_ := of_eq_true p10; have b1_ := of_eq_true q10; omega)
                      have hf11 := blk_frozen ((show IsS92 w0 wr g s0_0 from by repeat (first | (with_reducible first | exact HI0.out | apply IsS92.alloc | apply IsS92.drewN | apply IsS92.drew | apply IsS92.set_0) | exact HI0.out)).1) (x5_1.toNat * 16 + x6_2.toNat)
                      go_wp2_with (first | ((with_reducible refine gate_dst (N := 24) rfl ?_); refine Kd.R_lit k65 _ 65 ?hg (N := 24) ?hd (xs := ([] : List (S65))) (inner := []) (ok := fun _ => True) (okp := fun _ => True) ?hr ?hp (fun _ hk => hk) trivial (Below.refl _ _) (Nat.le_refl _) (by simp) ?_; (case hd => rfl); (case hg => rfl); (case hr => first | (go_simp; done) | (go_simp; rfl)); (case hp => exact (Reps.none _ _)); intro v140 w13 ho14 hb hg_ hnew_; clear hg_ hnew_; (first | rw [← Ny139.out] at ho14 | (simp only [Int.reduceToNat] at ho14; rw [← Ny139.out] at ho14)); have n0_ := Aside0.mk (Kd.R_elder' (by (with_reducible repeat (first | apply Kd.R_alloc | apply Kd.R_drewN | apply Kd.R_drew)); exact HO_4.out) (Kd.R_base ho14) hb); have n1_ := Aside0.mk (Kd.R_lower (Kd.R_new' ho14 (Kd.R_lt (by (with_reducible repeat (first | apply Kd.R_alloc | apply Kd.R_drewN | apply Kd.R_drew)); exact HO_4.out))) (keep_size (w := w) (g := g) (row := none) (by repeat (first | (with_reducible first | exact HK.out | apply KeepBut.set_ | apply keep_drewN | apply keep_drew | apply keep_alloc) | exact HK.out)))); have n2_ := Aside0.mk (IsS92.below (by repeat (first | (with_reducible first | exact HI0.out | apply IsS92.alloc | apply IsS92.drewN | apply IsS92.drew | apply IsS92.set_0) | exact HI0.out)) hb); have n3_ := Aside0.mk (KeepBut.trans (by repeat (first | (with_reducible first | exact HK.out | apply KeepBut.set_ | apply keep_drewN | apply keep_drew | apply keep_alloc) | exact HK.out)) (KeepBut.of_below hb g none) (.inl rfl)); have n4_ := Aside0.mk (below_step (by repeat (first | (with_reducible first | exact HB.out | apply below_alloc | apply pw_below_drewN | apply below_drew1 | refine below_set ?_ (IsS92.ge HI0.out)) | exact HB.out)) hb); clear HO_4; clear HI0; clear HK; clear HB; have HO_4 := n0_; have HO141 := n1_; have HI0 := n2_; have HK := n3_; have HB := n4_; clear n0_ n1_ n2_ n3_ n4_; clear hb ho14))
                      go_ret2
                      exact ⟨_, by first | rfl | (simp [errW_none, errW_some] <;> rfl) | (simp [*, errW_none, errW_some] <;> rfl), by (with_reducible repeat (first | apply Kd.R_alloc | apply Kd.R_drewN | apply Kd.R_drew)); exact Kd.R_mono HO141.out (fun _ hk => trivial), by repeat (first | (with_reducible first | exact HI0.out | apply IsS92.alloc | apply IsS92.drewN | apply IsS92.drew | apply IsS92.set_0) | exact HI0.out), by repeat (first | (with_reducible first | exact HB.out | apply below_alloc | apply pw_below_drewN | apply below_drew1 | refine below_set ?_ (IsS92.ge HI0.out)) | exact HB.out), by repeat (first | (with_reducible first | exact HK.out | apply KeepBut.set_ | apply keep_drewN | apply keep_drew | apply keep_alloc) | exact HK.out)⟩
                    · rw [if_neg c12] at H
                      have c12b0 : decide (100000000 < (Arr.vrd2 16 s0_0 x5_1 x6_2)) = false := decide_eq_false c12
                      clear c12
                      by_cases c18 : (Arr.vrd2 16 s0_0 x5_1 x6_2) > 0
                      · rw [if_pos c18] at H
                        have c18b0 : decide (0 < (Arr.vrd2 16 s0_0 x5_1 x6_2)) = true := decide_eq_true c18
                        clear c18
                        by_cases c22 : x4_2.length < 5864062014805
                        · rw [if_pos c22] at H
                          have LMc22 := Aside0.mk c22
                          clear c22
                          obtain ⟨y142, hy142⟩ : ∃ y_ : List (S65), y_ = (x4_2 ++ [(⟨x5_1, x6_2, Arr.vrd2 16 s0_0 x5_1 x6_2⟩ : S65)]) := ⟨_, rfl⟩
                          replace H : (spec_l02List.l1 k2 y142 x5_1 (wrap64 (x6_2 + 1)) s0_0) = some (r1, r2, r3) := by first | (rw [hy142]; with_reducible exact H) | (have H2_ := (Option.bind_some _ _).symm.trans H; rw [hy142]; with_reducible exact H2_) | (have H2_ := (Option.bind_some _ _).symm.trans H; with_reducible exact H2_) | with_reducible exact H | (rw [hy142]; exact H) | exact H
                          have Ny142 := Aside0.mk hy142
                          clear hy142
                          have H' := Aside0.mk H
                          clear H
                          have p8 : 0 ≤ (x5_1 : Int) := of_decide_eq_true (by first | (with_reducible assumption) | assumption)
                          have q8 : (x5_1 : Int) < 16 := of_decide_eq_true (by first | (with_reducible assumption) | assumption)
                          replace p8 := eq_true p8
                          replace q8 := eq_true q8
                          have p10 : 0 ≤ (x6_2 : Int) := of_decide_eq_true (by first | (with_reducible assumption) | assumption)
                          have q10 : (x6_2 : Int) < 16 := of_decide_eq_true (by first | (with_reducible assumption) | assumption)
                          replace p10 := eq_true p10
                          replace q10 := eq_true q10
                          have hx11 : wr.cell? ⟨g, x5_1.toNat * 16 + x6_2.toNat, none⟩ = some (.int .i64 (Arr.vrd2 16 s0_0 x5_1 x6_2)) := Arr.cellN (off := 0) (l := (Arr.arL .i64 s0_0)) ((show IsS92 w0 wr g s0_0 from by repeat (first | (with_reducible first | exact HI0.out | apply IsS92.alloc | apply IsS92.drewN | apply IsS92.drew | apply IsS92.set_0) | exact HI0.out)).1) rfl (x5_1.toNat * 16 + x6_2.toNat) (x5_1.toNat * 16 + x6_2.toNat) (by omega) (by have a0_ := of_eq_true p8; have b0_ := of_eq_true q8; have a1_ := of_eq_true p10; have b1_ := of_eq_true q10; omega)
                          have hf11 := blk_frozen ((show IsS92 w0 wr g s0_0 from by repeat (first | (with_reducible first | exact HI0.out | apply IsS92.alloc | apply IsS92.drewN | apply IsS92.drew | apply IsS92.set_0) | exact HI0.out)).1) (x5_1.toNat * 16 + x6_2.toNat)
                          have p15 : 0 ≤ (x5_1 : Int) := of_decide_eq_true (by first | (with_reducible assumption) | assumption)
                          have q15 : (x5_1 : Int) < 16 := of_decide_eq_true (by first | (with_reducible assumption) | assumption)
                          replace p15 := eq_true p15
                          replace q15 := eq_true q15
                          have p16 : 0 ≤ (x6_2 : Int) := of_decide_eq_true (by first | (with_reducible assumption) | assumption)
                          have q16 : (x6_2 : Int) < 16 := of_decide_eq_true (by first | (with_reducible assumption) | assumption)
                          replace p16 := eq_true p16
                          replace q16 := eq_true q16
                          have hx17 : wr.cell? ⟨g, x5_1.toNat * 16 + x6_2.toNat, none⟩ = some (.int .i64 (Arr.vrd2 16 s0_0 x5_1 x6_2)) := Arr.cellN (off := 0) (l := (Arr.arL .i64 s0_0)) ((show IsS92 w0 wr g s0_0 from by repeat (first | (with_reducible first | exact HI0.out | apply IsS92.alloc | apply IsS92.drewN | apply IsS92.drew | apply IsS92.set_0) | exact HI0.out)).1) rfl (x5_1.toNat * 16 + x6_2.toNat) (x5_1.toNat * 16 + x6_2.toNat) (by omega) (by have a0_ := of_eq_true p15; have b0_ := of_eq_true q15; have a1_ := of_eq_true p16; have b1_ := of_eq_true q16; omega)
                          have hf17 := blk_frozen ((show IsS92 w0 wr g s0_0 from by repeat (first | (with_reducible first | exact HI0.out | apply IsS92.alloc | apply IsS92.drewN | apply IsS92.drew | apply IsS92.set_0) | exact HI0.out)).1) (x5_1.toNat * 16 + x6_2.toNat)
                          have p19 : 0 ≤ (x5_1 : Int) := of_decide_eq_true (by first | (with_reducible assumption) | assumption)
                          have q19 : (x5_1 : Int) < 16 := of_decide_eq_true (by first | (with_reducible assumption) | assumption)
                          replace p19 := eq_true p19
                          replace q19 := eq_true q19
                          have p20 : 0 ≤ (x6_2 : Int) := of_decide_eq_true (by first | (with_reducible assumption) | assumption)
                          have q20 : (x6_2 : Int) < 16 := of_decide_eq_true (by first | (with_reducible assumption) | assumption)
                          replace p20 := eq_true p20
                          replace q20 := eq_true q20
                          have hx21 : wr.cell? ⟨g, x5_1.toNat * 16 + x6_2.toNat, none⟩ = some (.int .i64 (Arr.vrd2 16 s0_0 x5_1 x6_2)) := Arr.cellN (off := 0) (l := (Arr.arL .i64 s0_0)) ((show IsS92 w0 wr g s0_0 from by repeat (first | (with_reducible first | exact HI0.out | apply IsS92.alloc | apply IsS92.drewN | apply IsS92.drew | apply IsS92.set_0) | exact HI0.out)).1) rfl (x5_1.toNat * 16 + x6_2.toNat) (x5_1.toNat * 16 + x6_2.toNat) (by omega) (by have a0_ := of_eq_true p19; have b0_ := of_eq_true q19; have a1_ := of_eq_true p20; have b1_ := of_eq_true q20; omega)
                          have hf21 := blk_frozen ((show IsS92 w0 wr g s0_0 from by repeat (first | (with_reducible first | exact HI0.out | apply IsS92.alloc | apply IsS92.drewN | apply IsS92.drew | apply IsS92.set_0) | exact HI0.out)).1) (x5_1.toNat * 16 + x6_2.toNat)
                          go_wp2_with (first | ((with_reducible refine gate_builtin (b := .append) (xs := #[.tmp 33, .tmp 44]) rfl ?_); at_builtin; refine Kd.R_append k65 w.heap.size rfl (.tmp 33) (.tmp 44) 26 65 (.agg #[(.int .i64 0), (.int .i64 0), (.int .i64 0)]) 24 rfl Try.underlying26 info65 rfl (by decide) (by omega) u4 x4_2 (⟨x5_1, x6_2, Arr.vrd2 16 s0_0 x5_1 x6_2⟩ : S65) [.int .i64 x5_1, .int .i64 x6_2, .int .i64 (Arr.vrd2 16 s0_0 x5_1 x6_2)] (fun _ => True) (fun _ => False) rfl rfl ?aP (fun _ hk => hk.elim) ?aF ?aO (Below.refl _ _) ?aS ?aL ?_; (case aP => exact k65_mkM _ _ _ (⟨x5_1, x6_2, Arr.vrd2 16 s0_0 x5_1 x6_2⟩ : S65)); (case aF => exact (fun _ _ => trivial)); (case aO => exact (by (with_reducible repeat (first | apply Kd.R_alloc | apply Kd.R_drewN | apply Kd.R_drew)); exact HO_4.out)); (case aS => exact (keep_size (w := w) (g := g) (row := none) (by repeat (first | (with_reducible first | exact HK.out | apply KeepBut.set_ | apply keep_drewN | apply keep_drew | apply keep_alloc) | exact HK.out)))); (case aL => have := LMc22.out; omega); intro v143 w23 ho hb hg hat; rw [← Ny142.out] at ho; have n0_ := Aside0.mk (IsS92.grown (by repeat (first | (with_reducible first | exact HI0.out | apply IsS92.alloc | apply IsS92.drewN | apply IsS92.drew | apply IsS92.set_0) | exact HI0.out)) hg (IsS92.own_ne HI0.out HO_4.out (by decide))); have n1_ := Aside0.mk (below_weaken (by repeat (first | (with_reducible first | exact HB.out | apply below_alloc | apply pw_below_drewN | apply below_drew1 | refine below_set ?_ (IsS92.ge HI0.out)) | exact HB.out)) HL.out hb); have n2_ := Aside0.mk (KeepBut.trans (by repeat (first | (with_reducible first | exact HK.out | apply KeepBut.set_ | apply keep_drewN | apply keep_drew | apply keep_alloc) | exact HK.out)) (KeepBut.of_grown hg g) (Kd.R_base2 HO_4.out)); have n3_ := Aside0.mk (ho); clear HI0; clear HB; clear HK; clear HO_4; have HI0 := n0_; have HB := n1_; have HK := n2_; have HO144 := n3_; clear n0_ n1_ n2_ n3_; clear ho hb hg hat))
                          go_roundg k2
                          case measure => have := HK1.out; have := HK2.out; omega
                          case rel => exact ⟨(y142), (wrap64 (x6_2 + 1)), (by first | rfl | (simp; done) | (simp [*]; done)), H', ⟨by have := HK1.out; have := HK2.out; omega⟩, ⟨by (with_reducible repeat (first | apply Kd.R_alloc | apply Kd.R_drewN | apply Kd.R_drew)); exact HO144.out⟩, ⟨by repeat (first | (with_reducible first | exact HI0.out | apply IsS92.alloc | apply IsS92.drewN | apply IsS92.drew | apply IsS92.set_0) | exact HI0.out)⟩, ⟨by repeat (first | (with_reducible first | exact HK.out | apply KeepBut.set_ | apply keep_drewN | apply keep_drew | apply keep_alloc) | exact HK.out)⟩, ⟨by repeat (first | (with_reducible first | exact HB.out | apply below_alloc | apply pw_below_drewN | apply below_drew1 | refine below_set ?_ (IsS92.ge HI0.out)) | exact HB.out)⟩⟩
                        · rw [if_neg c22] at H
                          exact absurd H (by simp)
                      · rw [if_neg c18] at H
                        have c18b0 : decide (0 < (Arr.vrd2 16 s0_0 x5_1 x6_2)) = false := decide_eq_false c18
                        clear c18
                        have H' := Aside0.mk H
                        clear H
                        have p8 : 0 ≤ (x5_1 : Int) := of_decide_eq_true (by first | (with_reducible assumption) | assumption)
                        have q8 : (x5_1 : Int) < 16 := of_decide_eq_true (by first | (with_reducible assumption) | assumption)
                        replace p8 := eq_true p8
                        replace q8 := eq_true q8
                        have p10 : 0 ≤ (x6_2 : Int) := of_decide_eq_true (by first | (with_reducible assumption) | assumption)
                        have q10 : (x6_2 : Int) < 16 := of_decide_eq_true (by first | (with_reducible assumption) | assumption)
                        replace p10 := eq_true p10
                        replace q10 := eq_true q10
                        have hx11 : wr.cell? ⟨g, x5_1.toNat * 16 + x6_2.toNat, none⟩ = some (.int .i64 (Arr.vrd2 16 s0_0 x5_1 x6_2)) := Arr.cellN (off := 0) (l := (Arr.arL .i64 s0_0)) ((show IsS92 w0 wr g s0_0 from by repeat (first | (with_reducible first | exact HI0.out | apply IsS92.alloc | apply IsS92.drewN | apply IsS92.drew | apply IsS92.set_0) | exact HI0.out)).1) rfl (x5_1.toNat * 16 + x6_2.toNat) (x5_1.toNat * 16 + x6_2.toNat) (by omega) (by have a0_ := of_eq_true p8; have b0_ := of_eq_true q8; have a1_ := of_eq_true p10; have b1_ := of_eq_true q10; omega)
                        have hf11 := blk_frozen ((show IsS92 w0 wr g s0_0 from by repeat (first | (with_reducible first | exact HI0.out | apply IsS92.alloc | apply IsS92.drewN | apply IsS92.drew | apply IsS92.set_0) | exact HI0.out)).1) (x5_1.toNat * 16 + x6_2.toNat)
                        have p15 : 0 ≤ (x5_1 : Int) := of_decide_eq_true (by first | (with_reducible assumption) | assumption)
                        have q15 : (x5_1 : Int) < 16 := of_decide_eq_true (by first | (with_reducible assumption) | assumption)
                        replace p15 := eq_true p15
                        replace q15 := eq_true q15
                        have p16 : 0 ≤ (x6_2 : Int) := of_decide_eq_true (by first | (with_reducible assumption) | assumption)
                        have q16 : (x6_2 : Int) < 16 := of_decide_eq_true (by first | (with_reducible assumption) | assumption)
                        replace p16 := eq_true p16
                        replace q16 := eq_true q16
                        have hx17 : wr.cell? ⟨g, x5_1.toNat * 16 + x6_2.toNat, none⟩ = some (.int .i64 (Arr.vrd2 16 s0_0 x5_1 x6_2)) := Arr.cellN (off := 0) (l := (Arr.arL .i64 s0_0)) ((show IsS92 w0 wr g s0_0 from by repeat (first | (with_reducible first | exact HI0.out | apply IsS92.alloc | apply IsS92.drewN | apply IsS92.drew | apply IsS92.set_0) | exact HI0.out)).1) rfl (x5_1.toNat * 16 + x6_2.toNat) (x5_1.toNat * 16 + x6_2.toNat) (by omega) (by have a0_ := of_eq_true p15; have b0_ := of_eq_true q15; have a1_ := of_eq_true p16; have b1_ := of_eq_true q16; omega)
                        have hf17 := blk_frozen ((show IsS92 w0 wr g s0_0 from by repeat (first | (with_reducible first | exact HI0.out | apply IsS92.alloc | apply IsS92.drewN | apply IsS92.drew | apply IsS92.set_0) | exact HI0.out)).1) (x5_1.toNat * 16 + x6_2.toNat)
                        go_wp2
                        go_roundg k2
                        case measure => have := HK1.out; have := HK2.out; omega
                        case rel => exact ⟨(x4_2), (wrap64 (x6_2 + 1)), (by first | rfl | (simp; done) | (simp [*]; done)), H', ⟨by have := HK1.out; have := HK2.out; omega⟩, ⟨by (with_reducible repeat (first | apply Kd.R_alloc | apply Kd.R_drewN | apply Kd.R_drew)); exact HO_4.out⟩, ⟨by repeat (first | (with_reducible first | exact HI0.out | apply IsS92.alloc | apply IsS92.drewN | apply IsS92.drew | apply IsS92.set_0) | exact HI0.out)⟩, ⟨by repeat (first | (with_reducible first | exact HK.out | apply KeepBut.set_ | apply keep_drewN | apply keep_drew | apply keep_alloc) | exact HK.out)⟩, ⟨by repeat (first | (with_reducible first | exact HB.out | apply below_alloc | apply pw_below_drewN | apply below_drew1 | refine below_set ?_ (IsS92.ge HI0.out)) | exact HB.out)⟩⟩
                  · rw [if_neg c9] at H
                    exact absurd H (by simp)
                · rw [if_neg c7] at H
                  exact absurd H (by simp)
              · rw [if_neg c6] at H
                exact absurd H (by simp)
            · rw [if_neg c5] at H
              have c5b0 : decide (x6_2 < 16) = false := decide_eq_false c5
              clear c5
              have H' := Aside0.mk H
              clear H
              go_wp2
              go_roundg k2
              case measure => have := HK1.out; have := HK2.out; omega
              case rel => exact ⟨(x4_2), (wrap64 (x5_1 + 1)), (by first | rfl | (simp; done) | (simp [*]; done)), H', ⟨by have := HK1.out; have := HK2.out; omega⟩, ⟨by (with_reducible repeat (first | apply Kd.R_alloc | apply Kd.R_drewN | apply Kd.R_drew)); exact HO_4.out⟩, ⟨by repeat (first | (with_reducible first | exact HI0.out | apply IsS92.alloc | apply IsS92.drewN | apply IsS92.drew | apply IsS92.set_0) | exact HI0.out)⟩, ⟨by repeat (first | (with_reducible first | exact HK.out | apply KeepBut.set_ | apply keep_drewN | apply keep_drew | apply keep_alloc) | exact HK.out)⟩, ⟨by repeat (first | (with_reducible first | exact HB.out | apply below_alloc | apply pw_below_drewN | apply below_drew1 | refine below_set ?_ (IsS92.ge HI0.out)) | exact HB.out)⟩⟩
      · rw [if_neg c4] at H
        have c4b0 : decide (x5_1 < 16) = false := decide_eq_false c4
        clear c4
        by_cases c24 : (x4_1.length : Int) > 60
        · rw [if_pos c24] at H
          have c24b0 : decide (60 < (x4_1.length : Int)) = true := decide_eq_true c24
          have c24b1 : decide (60 < x4_1.length) = true := decide_eq_true (by omega)
          clear c24
          obtain ⟨y136, hy136⟩ : ∃ y_ : List (S65), y_ = (([] : List (S65))) := ⟨_, rfl⟩
          replace H : (some (y136, 3, s0_0)) = some (r1, r2, r3) := by first | (rw [hy136]; with_reducible exact H) | (have H2_ := (Option.bind_some _ _).symm.trans H; rw [hy136]; with_reducible exact H2_) | (have H2_ := (Option.bind_some _ _).symm.trans H; with_reducible exact H2_) | with_reducible exact H | (rw [hy136]; exact H) | exact H
          have Ny136 := Aside0.mk hy136
          clear hy136
          simp only [Option.some.injEq, Prod.mk.injEq] at H
          obtain ⟨rfl, rfl, rfl⟩ := H
          obtain ⟨Ao25, co25, eo25⟩ := Kd.R_slice HO_4.out
          subst eo25
          go_wp2_with (first | ((with_reducible refine gate_dst (N := 49) rfl ?_); refine Kd.R_lit k65 _ 65 ?hg (N := 49) ?hd (xs := ([] : List (S65))) (inner := []) (ok := fun _ => True) (okp := fun _ => True) ?hr ?hp (fun _ hk => hk) trivial (Below.refl _ _) (Nat.le_refl _) (by simp) ?_; (case hd => rfl); (case hg => rfl); (case hr => first | (go_simp; done) | (go_simp; rfl)); (case hp => exact (Reps.none _ _)); intro v137 w26 ho27 hb hg_ hnew_; clear hg_ hnew_; (first | rw [← Ny136.out] at ho27 | (simp only [Int.reduceToNat] at ho27; rw [← Ny136.out] at ho27)); have n0_ := Aside0.mk (Kd.R_elder' (by (with_reducible repeat (first | apply Kd.R_alloc | apply Kd.R_drewN | apply Kd.R_drew)); exact HO_4.out) (Kd.R_base ho27) hb); have n1_ := Aside0.mk (Kd.R_lower (Kd.R_new' ho27 (Kd.R_lt (by (with_reducible repeat (first | apply Kd.R_alloc | apply Kd.R_drewN | apply Kd.R_drew)); exact HO_4.out))) (keep_size (w := w) (g := g) (row := none) (by repeat (first | (with_reducible first | exact HK.out | apply KeepBut.set_ | apply keep_drewN | apply keep_drew | apply keep_alloc) | exact HK.out)))); have n2_ := Aside0.mk (IsS92.below (by repeat (first | (with_reducible first | exact HI0.out | apply IsS92.alloc | apply IsS92.drewN | apply IsS92.drew | apply IsS92.set_0) | exact HI0.out)) hb); have n3_ := Aside0.mk (KeepBut.trans (by repeat (first | (with_reducible first | exact HK.out | apply KeepBut.set_ | apply keep_drewN | apply keep_drew | apply keep_alloc) | exact HK.out)) (KeepBut.of_below hb g none) (.inl rfl)); have n4_ := Aside0.mk (below_step (by repeat (first | (with_reducible first | exact HB.out | apply below_alloc | apply pw_below_drewN | apply below_drew1 | refine below_set ?_ (IsS92.ge HI0.out)) | exact HB.out)) hb); clear HO_4; clear HI0; clear HK; clear HB; have HO_4 := n0_; have HO138 := n1_; have HI0 := n2_; have HK := n3_; have HB := n4_; clear n0_ n1_ n2_ n3_ n4_; clear hb ho27))
          go_ret2
          exact ⟨_, by first | rfl | (simp [errW_none, errW_some] <;> rfl) | (simp [*, errW_none, errW_some] <;> rfl), by (with_reducible repeat (first | apply Kd.R_alloc | apply Kd.R_drewN | apply Kd.R_drew)); exact Kd.R_mono HO138.out (fun _ hk => trivial), by repeat (first | (with_reducible first | exact HI0.out | apply IsS92.alloc | apply IsS92.drewN | apply IsS92.drew | apply IsS92.set_0) | exact HI0.out), by repeat (first | (with_reducible first | exact HB.out | apply below_alloc | apply pw_below_drewN | apply below_drew1 | refine below_set ?_ (IsS92.ge HI0.out)) | exact HB.out), by repeat (first | (with_reducible first | exact HK.out | apply KeepBut.set_ | apply keep_drewN | apply keep_drew | apply keep_alloc) | exact HK.out)⟩
        · rw [if_neg c24] at H
          have c24b0 : decide (60 < (x4_1.length : Int)) = false := decide_eq_false c24
          have c24b1 : decide (60 < x4_1.length) = false := decide_eq_false (by omega)
          clear c24
          simp only [Option.some.injEq, Prod.mk.injEq] at H
          obtain ⟨rfl, rfl, rfl⟩ := H
          obtain ⟨Ao28, co28, eo28⟩ := Kd.R_slice HO_4.out
          subst eo28
          go_wp2
          go_ret2
          exact ⟨_, by first | rfl | (simp [errW_none, errW_some] <;> rfl) | (simp [*, errW_none, errW_some] <;> rfl), by (with_reducible repeat (first | apply Kd.R_alloc | apply Kd.R_drewN | apply Kd.R_drew)); exact HO_4.out, by repeat (first | (with_reducible first | exact HI0.out | apply IsS92.alloc | apply IsS92.drewN | apply IsS92.drew | apply IsS92.set_0) | exact HI0.out), by repeat (first | (with_reducible first | exact HB.out | apply below_alloc | apply pw_below_drewN | apply below_drew1 | refine below_set ?_ (IsS92.ge HI0.out)) | exact HB.out), by repeat (first | (with_reducible first | exact HK.out | apply KeepBut.set_ | apply keep_drewN | apply keep_drew | apply keep_alloc) | exact HK.out)⟩

/-! ### spec_JoinDebts: function 20 -/
def spec_JoinDebts.f (k : Nat) (a0 : Int) (l1 : List (S65)) : Option ((List (S65)) × Int) := (spec_l02Ok.f k a0 l1).bind fun t145 => (if t145 = true then ((spec_l02Sums.f k l1).bind fun t146 => ((spec_l02List.f k t146).bind fun bt148 => (some (bt148.1, bt148.2.1)))) else (some ((([] : List (S65))), 1)))
theorem spec_JoinDebts.mono : ∀ a0 a1 k, LeO (spec_JoinDebts.f k a0 a1) (spec_JoinDebts.f (k + 1) a0 a1) := by
  intro a0 a1 k
  unfold spec_JoinDebts.f
  repeat' first
      | (with_reducible exact spec_l02List.mono _ _)
      | (with_reducible exact spec_l02Ok.mono _ _ _)
      | (with_reducible exact spec_l02Sums.mono _ _)
      | (with_reducible exact LeO.refl _)
      | (with_reducible exact LeO.none _)
      | (with_reducible refine LeO.ite ?_ ?_)
      | (with_reducible refine LeO.bind ?_ (fun _ => ?_))
      | exact spec_l02List.mono _ _
      | exact spec_l02Ok.mono _ _ _
      | exact spec_l02Sums.mono _ _
      | exact LeO.none _
      | refine LeO.ite ?_ ?_
      | refine LeO.bind ?_ (fun _ => ?_)
set_option maxHeartbeats 8000000 in
set_option maxRecDepth 100000 in
theorem spec_JoinDebts.calls (k : Nat) (a0 : Int) (A1 : Option Addr) (c1 : Nat) (l1 : List (S65)) (r1 : List (S65)) (r2 : Int) (w : World) (hr1 : Kd.C k65 w A1 l1.length l1) (hc1 : l1.length ≤ c1) (h : spec_JoinDebts.f k a0 l1 = some (r1, r2)) :
    Calls Try.prog 20 #[.int .i64 a0, .slice A1 l1.length c1] w fun e w' => ∃ v0_ : Value, e = .returned (.tuple #[v0_, .int .i64 r2]) ∧ Kd.R k65 65 w' w.heap.size (fun _ => True) v0_ r1 ∧ Below w.heap.size w w' := by
  have HR1 := Aside0.mk hr1
  have HC1 := Aside0.mk hc1
  clear hr1 hc1
  have HB := Aside0.mk (Below.refl w.heap.size w)
  have H : ((spec_l02Ok.f k a0 l1).bind fun t145 => (if t145 = true then ((spec_l02Sums.f k l1).bind fun t146 => ((spec_l02List.f k t146).bind fun bt148 => (some (bt148.1, bt148.2.1)))) else (some ((([] : List (S65))), 1)))) = some (r1, r2) := h
  clear h
  replace H := Option.bind_eq_some_iff.mp H
  obtain ⟨t145, A30, H⟩ := H
  replace H : (if t145 = true then ((spec_l02Sums.f k l1).bind fun t146 => ((spec_l02List.f k t146).bind fun bt148 => (some (bt148.1, bt148.2.1)))) else (some ((([] : List (S65))), 1))) = some (r1, r2) := H
  have A3 := Aside0.mk A30
  clear A30
  by_cases c4 : t145 = true
  · subst c4
    have H1 : ((spec_l02Sums.f k l1).bind fun t146 => ((spec_l02List.f k t146).bind fun bt148 => (some (bt148.1, bt148.2.1)))) = some (r1, r2) := by rw [if_pos rfl] at H; exact H
    clear H
    have H := H1
    clear H1
    replace H := Option.bind_eq_some_iff.mp H
    obtain ⟨t146, A50, H⟩ := H
    replace H : ((spec_l02List.f k t146).bind fun bt148 => (some (bt148.1, bt148.2.1))) = some (r1, r2) := H
    have A5 := Aside0.mk A50
    clear A50
    replace H := Option.bind_eq_some_iff.mp H
    obtain ⟨⟨t148, t151, t152⟩, A60, H⟩ := H
    replace H : (some (t148, t151)) = some (r1, r2) := H
    have A6 := Aside0.mk A60
    clear A60
    simp only [Option.some.injEq, Prod.mk.injEq] at H
    obtain ⟨rfl, rfl⟩ := H
    go_enter Try.func20, Try.ntmps20
    go_wp2_with (first | ((with_reducible refine gate_callee (f := 59) rfl ?_); refine goesL_ (some 8) rfl rfl Try.func59 (by kernel_rfl) rfl #[.int .i64 a0, .slice A1 l1.length c1] rfl (by (try simp only [List.map_toArray, List.map_cons, List.map_nil]); first | done | (go_simp; done) | rfl | (simp only [List.length_drop, List.length_take]; rfl)) ?_; (with_reducible refine (spec_l02Ok.calls k a0 _ _ l1 true _ ?side1 ?side2 A3.out).mono ?_); (case side1 => repeat (first | exact HR1.out | (with_reducible refine Kd.C_alloc ?_ _) | (with_reducible refine Kd.C_drewN ?_ _) | (with_reducible refine Kd.C_drew ?_))); (case side2 => exact HC1.out); rintro e w7 ⟨rfl, hb⟩; refine ⟨_, rfl, ?_⟩; have n0_ := Aside0.mk (below_step (by repeat (first | (with_reducible first | exact HB.out | apply below_alloc | apply pw_below_drewN | apply below_drew1) | exact HB.out)) hb); clear HB; have HB := n0_; clear n0_; (try clear hb); (try clear hb2); (try clear hk); (try clear hi)) | ((with_reducible refine gate_callee (f := 54) rfl ?_); refine goesL_ (some 12) rfl rfl Try.func54 (by kernel_rfl) rfl #[.slice A1 l1.length c1] rfl (by (try simp only [List.map_toArray, List.map_cons, List.map_nil]); first | done | (go_simp; done) | rfl | (simp only [List.length_drop, List.length_take]; rfl)) ?_; (with_reducible refine (spec_l02Sums.calls k _ _ l1 t146 w _ ?side1 ?side2 ?side3 A5.out).mono ?_); (case side1 => repeat (first | (with_reducible first | exact HB.out | apply below_alloc | apply pw_below_drewN | apply below_drew1) | exact HB.out)); (case side2 => exact HR1.out); (case side3 => exact HC1.out); rintro e w8 ⟨g147, rfl, hi, hb, hb2⟩; refine ⟨_, rfl, ?_⟩; have n0_ := Aside0.mk (hb); have n1_ := Aside0.mk (hi); clear HB; have HB := n0_; have HI147 := n1_; clear n0_ n1_; (try clear hb); (try clear hb2); (try clear hk); (try clear hi)) | ((with_reducible refine gate_callee (f := 60) rfl ?_); refine goesL_ (some 13) rfl rfl Try.func60 (by kernel_rfl) rfl #[.pointer (some ⟨g147, 0, none⟩)] rfl (by (try simp only [List.map_toArray, List.map_cons, List.map_nil]); first | done | (go_simp; done) | rfl | (simp only [List.length_drop, List.length_take]; rfl)) ?_; (with_reducible refine (spec_l02List.calls k g147 t146 t148 t151 t152 w _ ?side1 ?side2 A6.out).mono ?_); (case side1 => repeat (first | (with_reducible first | exact HI147.out | apply IsS92.alloc | apply IsS92.drewN | apply IsS92.drew | apply IsS92.set_0) | exact HI147.out)); (case side2 => repeat (first | (with_reducible first | exact HB.out | apply below_alloc | apply pw_below_drewN | apply below_drew1 | refine below_set ?_ (IsS92.ge HI147.out)) | exact HB.out)); rintro e w9 ⟨v149, rfl, ho0, hi, hb, hk⟩; refine ⟨_, rfl, ?_⟩; have n0_ := Aside0.mk (Kd.R_lower ho0 (below_size (by repeat (first | (with_reducible first | exact HB.out | apply below_alloc | apply pw_below_drewN | apply below_drew1 | refine below_set ?_ (IsS92.ge HI147.out)) | exact HB.out)))); have n1_ := Aside0.mk (hb); have n2_ := Aside0.mk (hi); clear HB; clear HI147; have HO150 := n0_; have HB := n1_; have HI147 := n2_; clear n0_ n1_ n2_; (try clear hb); (try clear hb2); (try clear hk); (try clear hi); (try clear ho0)))
    go_ret2
    exact ⟨_, by first | rfl | (simp [errW_none, errW_some] <;> rfl) | (simp [*, errW_none, errW_some] <;> rfl), by (with_reducible repeat (first | apply Kd.R_alloc | apply Kd.R_drewN | apply Kd.R_drew)); exact HO150.out, by repeat (first | (with_reducible first | exact HB.out | apply below_alloc | apply pw_below_drewN | apply below_drew1 | refine below_set ?_ (IsS92.ge HI147.out)) | exact HB.out)⟩
  · replace c4 := Bool.eq_false_iff.mpr c4
    subst c4
    have H1 : (some ((([] : List (S65))), 1)) = some (r1, r2) := by rw [if_neg (show ¬ (false = true) by decide)] at H; exact H
    clear H
    have H := H1
    clear H1
    obtain ⟨y153, hy153⟩ : ∃ y_ : List (S65), y_ = (([] : List (S65))) := ⟨_, rfl⟩
    replace H : (some (y153, 1)) = some (r1, r2) := by first | (rw [hy153]; with_reducible exact H) | (have H2_ := (Option.bind_some _ _).symm.trans H; rw [hy153]; with_reducible exact H2_) | (have H2_ := (Option.bind_some _ _).symm.trans H; with_reducible exact H2_) | with_reducible exact H | (rw [hy153]; exact H) | exact H
    have Ny153 := Aside0.mk hy153
    clear hy153
    simp only [Option.some.injEq, Prod.mk.injEq] at H
    obtain ⟨rfl, rfl⟩ := H
    go_enter Try.func20, Try.ntmps20
    go_wp2_with (first | ((with_reducible refine gate_callee (f := 59) rfl ?_); refine goesL_ (some 8) rfl rfl Try.func59 (by kernel_rfl) rfl #[.int .i64 a0, .slice A1 l1.length c1] rfl (by (try simp only [List.map_toArray, List.map_cons, List.map_nil]); first | done | (go_simp; done) | rfl | (simp only [List.length_drop, List.length_take]; rfl)) ?_; (with_reducible refine (spec_l02Ok.calls k a0 _ _ l1 false _ ?side1 ?side2 A3.out).mono ?_); (case side1 => repeat (first | exact HR1.out | (with_reducible refine Kd.C_alloc ?_ _) | (with_reducible refine Kd.C_drewN ?_ _) | (with_reducible refine Kd.C_drew ?_))); (case side2 => exact HC1.out); rintro e w10 ⟨rfl, hb⟩; refine ⟨_, rfl, ?_⟩; have n0_ := Aside0.mk (below_step (by repeat (first | (with_reducible first | exact HB.out | apply below_alloc | apply pw_below_drewN | apply below_drew1) | exact HB.out)) hb); clear HB; have HB := n0_; clear n0_; (try clear hb); (try clear hb2); (try clear hk); (try clear hi)) | ((with_reducible refine gate_dst (N := 10) rfl ?_); refine Kd.R_lit k65 _ 65 ?hg (N := 10) ?hd (xs := ([] : List (S65))) (inner := []) (ok := fun _ => True) (okp := fun _ => True) ?hr ?hp (fun _ hk => hk) trivial (Below.refl _ _) (Nat.le_refl _) (by simp) ?_; (case hd => rfl); (case hg => rfl); (case hr => first | (go_simp; done) | (go_simp; rfl)); (case hp => exact (Reps.none _ _)); intro v154 w11 ho12 hb hg_ hnew_; clear hg_ hnew_; (first | rw [← Ny153.out] at ho12 | (simp only [Int.reduceToNat] at ho12; rw [← Ny153.out] at ho12)); have n0_ := Aside0.mk (Kd.R_lower ho12 (below_size (by repeat (first | (with_reducible first | exact HB.out | apply below_alloc | apply pw_below_drewN | apply below_drew1) | exact HB.out)))); have n1_ := Aside0.mk (below_step (by repeat (first | (with_reducible first | exact HB.out | apply below_alloc | apply pw_below_drewN | apply below_drew1) | exact HB.out)) hb); clear HB; have HO155 := n0_; have HB := n1_; clear n0_ n1_; clear hb ho12))
    go_ret2
    exact ⟨_, by first | rfl | (simp [errW_none, errW_some] <;> rfl) | (simp [*, errW_none, errW_some] <;> rfl), by (with_reducible repeat (first | apply Kd.R_alloc | apply Kd.R_drewN | apply Kd.R_drew)); exact HO155.out, by repeat (first | (with_reducible first | exact HB.out | apply below_alloc | apply pw_below_drewN | apply below_drew1) | exact HB.out)⟩

/-! ### impl_sumsOf: function 57 -/
def impl_sumsOf.l0 : Nat → List (S65) → Int → Int → Vector Int 256 → Option (Vector Int 256)
  | 0, _, _, _, _ => none
  | k + 1, x7, x8, x9, x158000 => if x9 < x8 then (if 0 ≤ x9 then (if x9 < (x7.length : Int) then (if 0 ≤ ((rd_T65 x7 x9).f0) then (if ((rd_T65 x7 x9).f0) < 16 then (if 0 ≤ ((rd_T65 x7 x9).f1) then (if ((rd_T65 x7 x9).f1) < 16 then (impl_sumsOf.l0 k x7 x8 (wrap64 (x9 + 1)) (Arr.vst2 16 x158000 ((rd_T65 x7 x9).f0) ((rd_T65 x7 x9).f1) (wrap64 ((Arr.vrd2 16 x158000 ((rd_T65 x7 x9).f0) ((rd_T65 x7 x9).f1)) + ((rd_T65 x7 x9).f2))))) else (none)) else (none)) else (none)) else (none)) else (none)) else (none)) else (some x158000)
def impl_sumsOf.f (k : Nat) (l0 : List (S65)) : Option (Vector Int 256) := impl_sumsOf.l0 k l0 (l0.length : Int) 0 (Vector.replicate 256 0 : Vector Int 256)
theorem impl_sumsOf.mono_l : ∀ k, (∀ y0 y1 y2 y3, LeO (impl_sumsOf.l0 k y0 y1 y2 y3) (impl_sumsOf.l0 (k + 1) y0 y1 y2 y3))
  | 0 => fun _ _ _ _ r h => by simp [impl_sumsOf.l0] at h
  | k + 1 => by
    have ih0 := impl_sumsOf.mono_l k
    · intro y0 y1 y2 y3
      unfold impl_sumsOf.l0
      repeat' first
      | (with_reducible exact ih0 _ _ _ _)
      | (with_reducible exact LeO.refl _)
      | (with_reducible exact LeO.none _)
      | (with_reducible refine LeO.ite ?_ ?_)
      | (with_reducible refine LeO.bind ?_ (fun _ => ?_))
      | exact ih0 _ _ _ _
      | exact LeO.none _
      | refine LeO.ite ?_ ?_
      | refine LeO.bind ?_ (fun _ => ?_)
theorem impl_sumsOf.mono : ∀ a0 k, LeO (impl_sumsOf.f k a0) (impl_sumsOf.f (k + 1) a0) := by
  intro a0 k
  have ih0 := impl_sumsOf.mono_l k
  unfold impl_sumsOf.f
  repeat' first
      | (with_reducible exact ih0 _ _ _ _)
      | (with_reducible exact LeO.refl _)
      | (with_reducible exact LeO.none _)
      | (with_reducible refine LeO.ite ?_ ?_)
      | (with_reducible refine LeO.bind ?_ (fun _ => ?_))
      | exact ih0 _ _ _ _
      | exact LeO.none _
      | refine LeO.ite ?_ ?_
      | refine LeO.bind ?_ (fun _ => ?_)
def impl_sumsOf.T5 : Bool × List (List Nat × List Nat) := (true, [([], []), ([0], [0]), ([], []), ([2], [2]), ([1], [1]), ([4, 3], [3, 4]), ([5], [5]), ([], []), ([7], [7]), ([6, 8], [6, 8]), ([1], [1]), ([10, 3, 0, 1, 2, 3, 4, 5, 6, 7, 8, 9], [3, 10]), ([11, 9, 0, 1, 2, 3, 4, 5, 6, 7, 8, 9], [9, 11])])
def impl_sumsOf.B5 : List Nat := [0, 1, 0, 4, 3, 31, 63, 0, 128, 511, 3, 2047, 4095]
theorem impl_sumsOf.tab5 : rtab .any (opsOf Try.f57 5) = impl_sumsOf.T5 := by kernel_rfl
theorem impl_sumsOf.bits5 : waitsOk impl_sumsOf.T5.2 impl_sumsOf.B5 = true := by kernel_rfl
set_option maxHeartbeats 8000000 in
set_option maxRecDepth 100000 in
theorem impl_sumsOf.calls (k : Nat) (A0 : Option Addr) (c0 : Nat) (l0 : List (S65)) (r : Vector Int 256) (w : World) (hr0 : Kd.C k65 w A0 l0.length l0) (hc0 : l0.length ≤ c0) (h : impl_sumsOf.f k l0 = some r) :
    Calls Try.prog 57 #[.slice A0 l0.length c0] w fun e w' => e = .returned (.agg (⟨Arr.arL .i64 r⟩ : Array Value)) ∧ Below w.heap.size w w' := by
  have hu70 := Try.underlying70
  have hu65 := Try.underlying65
  have HR0 := Aside0.mk hr0
  have HC0 := Aside0.mk hc0
  clear hr0 hc0
  have HB := Aside0.mk (Below.refl w.heap.size w)
  have H : (impl_sumsOf.l0 k l0 (l0.length : Int) 0 (Vector.replicate 256 0 : Vector Int 256)) = some r := h
  clear h
  have H' := Aside0.mk H
  clear H
  go_enter Try.func57, Try.ntmps57
  go_wp2_with (first | ((with_reducible refine gate_dst (N := 2) rfl ?_); refine box_event ?hg (N := 2) ?hd (cs := (⟨Arr.arL .i64 (Vector.replicate 256 0 : Vector Int 256)⟩ : Array Value)) (t := 70) ?hr ?_; (case hd => rfl); (case hg => rfl); (case hr => first | (go_simp; done) | (go_simp; rfl)); intro gb156 hg w3 hbox hb; have n0_ := Aside0.mk (below_step (by repeat (first | (with_reducible first | exact HB.out | apply below_alloc | apply pw_below_drewN | apply below_drew1) | exact HB.out)) hb); have n1_ := Aside0.mk (hbox); have n2_ := Aside0.mk ((by rw [hg]; exact (below_size (by repeat (first | (with_reducible first | exact HB.out | apply below_alloc | apply pw_below_drewN | apply below_drew1) | exact HB.out))) : w.heap.size ≤ gb156)); have n3_ := Aside0.mk ((by rw [hg]; exact (below_size (by repeat (first | (with_reducible first | exact HB.out | apply below_alloc | apply pw_below_drewN | apply below_drew1) | exact HB.out))) : w.heap.size ≤ gb156)); clear HB; have HB := n0_; have BK156 := n1_; have GW156 := n2_; have GE156 := n3_; clear n0_ n1_ n2_ n3_; clear hb hbox hg) | ((with_reducible refine gate_dst (N := 3) rfl ?_); refine box_event ?hg (N := 3) ?hd (cs := (⟨Arr.arL .i64 (Vector.replicate 256 0 : Vector Int 256)⟩ : Array Value)) (t := 70) ?hr ?_; (case hd => rfl); (case hg => rfl); (case hr => first | (go_simp; done) | (go_simp; rfl)); intro gb157 hg w4 hbox hb; have n0_ := Aside0.mk (blk_below (g := gb156) (o := .cells (⟨Arr.arL .i64 (Vector.replicate 256 0 : Vector Int 256)⟩ : Array Value) 70 (0, 0)) (by (with_reducible repeat (first | refine blk_drewN ?_ _ | refine blk_drew ?_ | refine blk_alloc ?_ _)); exact BK156.out) hb); have n1_ := Aside0.mk (below_step (by repeat (first | (with_reducible first | exact HB.out | apply below_alloc | apply pw_below_drewN | apply below_drew1 | refine below_set ?_ GE156.out) | exact HB.out)) hb); have n2_ := Aside0.mk (hbox); have n3_ := Aside0.mk ((by rw [hg]; exact (below_size (by repeat (first | (with_reducible first | exact HB.out | apply below_alloc | apply pw_below_drewN | apply below_drew1 | refine below_set ?_ GE156.out) | exact HB.out))) : w.heap.size ≤ gb157)); have n4_ := Aside0.mk ((by rw [hg]; exact (below_size (by repeat (first | (with_reducible first | exact HB.out | apply below_alloc | apply pw_below_drewN | apply below_drew1 | refine below_set ?_ GE156.out) | exact HB.out))) : w.heap.size ≤ gb157)); have n5_ := Aside0.mk ((by rw [hg]; exact Nat.ne_of_lt (blk_lt (g := gb156) (o := .cells (⟨Arr.arL .i64 (Vector.replicate 256 0 : Vector Int 256)⟩ : Array Value) 70 (0, 0)) (by (with_reducible repeat (first | refine blk_drewN ?_ _ | refine blk_drew ?_ | refine blk_alloc ?_ _)); exact BK156.out)) : gb156 ≠ gb157)); have n6_ := Aside0.mk ((by rw [hg]; exact Nat.ne_of_gt (blk_lt (g := gb156) (o := .cells (⟨Arr.arL .i64 (Vector.replicate 256 0 : Vector Int 256)⟩ : Array Value) 70 (0, 0)) (by (with_reducible repeat (first | refine blk_drewN ?_ _ | refine blk_drew ?_ | refine blk_alloc ?_ _)); exact BK156.out)) : gb157 ≠ gb156)); clear BK156; clear HB; have BK156 := n0_; have HB := n1_; have BK157 := n2_; have GW157 := n3_; have GE157 := n4_; have NB156_157 := n5_; have NB157_156 := n6_; clear n0_ n1_ n2_ n3_ n4_ n5_ n6_; clear hb hbox hg) | ((with_reducible refine gate_store (t := 70) (p := 3) rfl ?_); refine Arr.storeA ?hg (T := 70) (p := 3) (v := ?vo_w5) ?ho ?hn (g := gb157) (off := 0) ?hx (m := (Arr.arL .i64 (Vector.replicate 256 0 : Vector Int 256))) ?hy (t := 70) (pre := []) (old := (Arr.arL .i64 (Vector.replicate 256 0 : Vector Int 256))) (show w4.heap[gb157]? = some (.cells (⟨Arr.arL .i64 (Vector.replicate 256 0 : Vector Int 256)⟩ : Array Value) 70 (0, 0)) from by (with_reducible repeat (first | refine blk_drewN ?_ _ | refine blk_drew ?_ | refine blk_alloc ?_ _)); exact BK157.out) rfl (by simp [Arr.arL_length]) (n := 256) (by kernel_rfl) (by simp [Arr.arL_length]) (Arr.ones_0 ) ?_; (case ho => rfl); (case hg => rfl); (case hn => rfl); (case hx => first | (go_simp; done) | rfl | (go_simp; rfl)); (case hy => first | (go_simp; done) | rfl | (go_simp; rfl)); intro w5 hbx hg hbe; replace hbx : w5.heap[gb157]? = some (.cells (⟨Arr.arL .i64 (Vector.replicate 256 0 : Vector Int 256)⟩ : Array Value) 70 (0, 0)) := hbx; have n0_ := Aside0.mk (blk_grown (g := gb156) (o := .cells (⟨Arr.arL .i64 (Vector.replicate 256 0 : Vector Int 256)⟩ : Array Value) 70 (0, 0)) (by (with_reducible repeat (first | refine blk_drewN ?_ _ | refine blk_drew ?_ | refine blk_alloc ?_ _)); exact BK156.out) hg (fun e_ => NB156_157.out (Option.some.inj e_))); have n1_ := Aside0.mk (hbx); have n2_ := Aside0.mk (hbe _ _ (by repeat (first | (with_reducible first | exact HB.out | apply below_alloc | apply pw_below_drewN | apply below_drew1 | refine below_set ?_ GE156.out | refine below_set ?_ GE157.out) | exact HB.out)) GE157.out); clear BK156; clear BK157; clear HB; have BK156 := n0_; have BK157 := n1_; have HB := n2_; clear n0_ n1_ n2_; (try clear hbx hg hbe)))
  go_loopg [9] k (fun kq v9 w' => ∃ (x9_1 : Int) (x158000_1 : Vector Int 256), v9 = .int .i64 x9_1 ∧ Aside0 (impl_sumsOf.l0 kq l0 (l0.length : Int) x9_1 x158000_1 = some r) ∧ Aside0 (kq ≤ k) ∧ Aside0 (w'.heap[gb156]? = some (.cells (⟨Arr.arL .i64 (Vector.replicate 256 0 : Vector Int 256)⟩ : Array Value) 70 (0, 0))) ∧ Aside0 (w'.heap[gb157]? = some (.cells (⟨Arr.arL .i64 x158000_1⟩ : Array Value) 70 (0, 0))) ∧ Aside0 (Below w.heap.size w w'))
  case atStart => exact ⟨(0), ((Vector.replicate 256 0 : Vector Int 256)), (by first | rfl | (simp; done) | (simp [*]; done)), H', ⟨Nat.le_refl _⟩, ⟨by (with_reducible repeat (first | refine blk_drewN ?_ _ | refine blk_drew ?_ | refine blk_alloc ?_ _)); exact BK156.out⟩, ⟨by (with_reducible repeat (first | refine blk_drewN ?_ _ | refine blk_drew ?_ | refine blk_alloc ?_ _)); exact BK157.out⟩, ⟨by repeat (first | (with_reducible first | exact HB.out | apply below_alloc | apply pw_below_drewN | apply below_drew1 | refine below_set ?_ GE156.out | refine below_set ?_ GE157.out) | exact HB.out)⟩⟩
  case round =>
    clear H'
    try clear p2
    try clear c5
    obtain ⟨x9_1, x158000_1, rfl, HA, HK1, BK156, BK157, HB⟩ := hrel
    cases gk with
    | zero => exact absurd HA.out (by simp [impl_sumsOf.l0])
    | succ k1 =>
      have H := HA.out
      clear HA
      simp only [impl_sumsOf.l0] at H
      by_cases c6 : x9_1 < (l0.length : Int)
      · rw [if_pos c6] at H
        have c6b0 : decide (x9_1 < (l0.length : Int)) = true := decide_eq_true c6
        clear c6
        by_cases c7 : 0 ≤ x9_1
        · rw [if_pos c7] at H
          have c7b0 : decide (0 ≤ x9_1) = true := decide_eq_true c7
          clear c7
          by_cases c8 : x9_1 < (l0.length : Int)
          · rw [if_pos c8] at H
            have c8b0 : decide (x9_1 < (l0.length : Int)) = true := decide_eq_true c8
            clear c8
            by_cases c9 : 0 ≤ ((rd_T65 l0 x9_1).f0)
            · rw [if_pos c9] at H
              have c9b0 : decide (0 ≤ ((rd_T65 l0 x9_1).f0)) = true := decide_eq_true c9
              clear c9
              by_cases c10 : ((rd_T65 l0 x9_1).f0) < 16
              · rw [if_pos c10] at H
                have c10b0 : decide (((rd_T65 l0 x9_1).f0) < 16) = true := decide_eq_true c10
                clear c10
                by_cases c12 : 0 ≤ ((rd_T65 l0 x9_1).f1)
                · rw [if_pos c12] at H
                  have c12b0 : decide (0 ≤ ((rd_T65 l0 x9_1).f1)) = true := decide_eq_true c12
                  clear c12
                  by_cases c13 : ((rd_T65 l0 x9_1).f1) < 16
                  · rw [if_pos c13] at H
                    have c13b0 : decide (((rd_T65 l0 x9_1).f1) < 16) = true := decide_eq_true c13
                    clear c13
                    obtain ⟨y160, hy160⟩ : ∃ y_ : Vector Int 256, y_ = (Arr.vst2 16 x158000_1 ((rd_T65 l0 x9_1).f0) ((rd_T65 l0 x9_1).f1) (wrap64 ((Arr.vrd2 16 x158000_1 ((rd_T65 l0 x9_1).f0) ((rd_T65 l0 x9_1).f1)) + ((rd_T65 l0 x9_1).f2)))) := ⟨_, rfl⟩
                    replace H : (impl_sumsOf.l0 k1 l0 (l0.length : Int) (wrap64 (x9_1 + 1)) y160) = some r := by first | (rw [hy160]; with_reducible exact H) | (have H2_ := (Option.bind_some _ _).symm.trans H; rw [hy160]; with_reducible exact H2_) | (have H2_ := (Option.bind_some _ _).symm.trans H; with_reducible exact H2_) | with_reducible exact H | (rw [hy160]; exact H) | exact H
                    have Ny160 := Aside0.mk hy160
                    clear hy160
                    have H' := Aside0.mk H
                    clear H
                    have p158 : 0 ≤ (x9_1 : Int) := of_decide_eq_true (by first | (with_reducible assumption) | assumption)
                    have q158 : x9_1 < (l0.length : Int) := of_decide_eq_true (by first | (with_reducible assumption) | assumption)
                    obtain ⟨ad158, e158, hx158_0, hx158_1, hx158_2⟩ := at_T65 HR0.out x9_1 p158 q158
                    cases e158
                    replace hx158_0 := (HB.out.cell (World.block_lt_of_cell? w _ hx158_0)).trans hx158_0
                    replace hx158_1 := (HB.out.cell (World.block_lt_of_cell? w _ hx158_1)).trans hx158_1
                    replace hx158_2 := (HB.out.cell (World.block_lt_of_cell? w _ hx158_2)).trans hx158_2
                    replace p158 := eq_true p158
                    replace q158 := eq_true q158
                    try go_wp2_with (first | ((with_reducible refine gate_dst (N := 5) rfl ?_); refine box_event ?hg (N := 5) ?hd (cs := #[.int .i64 0, .int .i64 0, .int .i64 0]) (t := 65) ?hr ?_; (case hd => rfl); (case hg => rfl); (case hr => first | (go_simp; done) | (go_simp; rfl)); intro gb159 hg w19 hbox hb; have n0_ := Aside0.mk (blk_below (g := gb156) (o := .cells (⟨Arr.arL .i64 (Vector.replicate 256 0 : Vector Int 256)⟩ : Array Value) 70 (0, 0)) (by (with_reducible repeat (first | refine blk_drewN ?_ _ | refine blk_drew ?_ | refine blk_alloc ?_ _)); exact BK156.out) hb); have n1_ := Aside0.mk (blk_below (g := gb157) (o := .cells (⟨Arr.arL .i64 x158000_1⟩ : Array Value) 70 (0, 0)) (by (with_reducible repeat (first | refine blk_drewN ?_ _ | refine blk_drew ?_ | refine blk_alloc ?_ _)); exact BK157.out) hb); have n2_ := Aside0.mk (below_step (by repeat (first | (with_reducible first | exact HB.out | apply below_alloc | apply pw_below_drewN | apply below_drew1 | refine below_set ?_ GE156.out | refine below_set ?_ GE157.out) | exact HB.out)) hb); have n3_ := Aside0.mk (hbox); have n4_ := Aside0.mk ((by rw [hg]; exact (below_size (by repeat (first | (with_reducible first | exact HB.out | apply below_alloc | apply pw_below_drewN | apply below_drew1 | refine below_set ?_ GE156.out | refine below_set ?_ GE157.out) | exact HB.out))) : w.heap.size ≤ gb159)); have n5_ := Aside0.mk ((by rw [hg]; exact (below_size (by repeat (first | (with_reducible first | exact HB.out | apply below_alloc | apply pw_below_drewN | apply below_drew1 | refine below_set ?_ GE156.out | refine below_set ?_ GE157.out) | exact HB.out))) : w.heap.size ≤ gb159)); have n6_ := Aside0.mk ((by rw [hg]; exact Nat.ne_of_lt (blk_lt (g := gb156) (o := .cells (⟨Arr.arL .i64 (Vector.replicate 256 0 : Vector Int 256)⟩ : Array Value) 70 (0, 0)) (by (with_reducible repeat (first | refine blk_drewN ?_ _ | refine blk_drew ?_ | refine blk_alloc ?_ _)); exact BK156.out)) : gb156 ≠ gb159)); have n7_ := Aside0.mk ((by rw [hg]; exact Nat.ne_of_gt (blk_lt (g := gb156) (o := .cells (⟨Arr.arL .i64 (Vector.replicate 256 0 : Vector Int 256)⟩ : Array Value) 70 (0, 0)) (by (with_reducible repeat (first | refine blk_drewN ?_ _ | refine blk_drew ?_ | refine blk_alloc ?_ _)); exact BK156.out)) : gb159 ≠ gb156)); have n8_ := Aside0.mk ((by rw [hg]; exact Nat.ne_of_lt (blk_lt (g := gb157) (o := .cells (⟨Arr.arL .i64 x158000_1⟩ : Array Value) 70 (0, 0)) (by (with_reducible repeat (first | refine blk_drewN ?_ _ | refine blk_drew ?_ | refine blk_alloc ?_ _)); exact BK157.out)) : gb157 ≠ gb159)); have n9_ := Aside0.mk ((by rw [hg]; exact Nat.ne_of_gt (blk_lt (g := gb157) (o := .cells (⟨Arr.arL .i64 x158000_1⟩ : Array Value) 70 (0, 0)) (by (with_reducible repeat (first | refine blk_drewN ?_ _ | refine blk_drew ?_ | refine blk_alloc ?_ _)); exact BK157.out)) : gb159 ≠ gb157)); clear BK156; clear BK157; clear HB; have BK156 := n0_; have BK157 := n1_; have HB := n2_; have BK159 := n3_; have GW159 := n4_; have GE159 := n5_; have NB156_159 := n6_; have NB159_156 := n7_; have NB157_159 := n8_; have NB159_157 := n9_; clear n0_ n1_ n2_ n3_ n4_ n5_ n6_ n7_ n8_ n9_; clear hb hbox hg; have hnb20 := NB159_156.out; have hnc20 := NB156_159.out; have hnb21 := NB159_157.out; have hnc21 := NB157_159.out; have hcz22_0 : w19.cell? ⟨gb159, 0, none⟩ = some (.int .i64 0) := (blk_cell BK159.out 0).trans rfl; have hcz22_1 : w19.cell? ⟨gb159, 1, none⟩ = some (.int .i64 0) := (blk_cell BK159.out 1).trans rfl; have hcz22_2 : w19.cell? ⟨gb159, 2, none⟩ = some (.int .i64 0) := (blk_cell BK159.out 2).trans rfl; have hfz22_0 := blk_frozen BK159.out 0; have hfz22_1 := blk_frozen BK159.out 1; have hfz22_2 := blk_frozen BK159.out 2))
                    have n0_ : Aside0 ((((w19.setCell ⟨gb159, 0, none⟩ (.int .i64 ((rd_T65 l0 x9_1).f0))).setCell ⟨gb159, 1, none⟩ (.int .i64 ((rd_T65 l0 x9_1).f1))).setCell ⟨gb159, 2, none⟩ (.int .i64 ((rd_T65 l0 x9_1).f2))).heap[gb156]? = some (.cells (⟨Arr.arL .i64 (Vector.replicate 256 0 : Vector Int 256)⟩ : Array Value) 70 (0, 0))) := ⟨by (with_reducible repeat (first | refine blk_drewN ?_ _ | refine blk_drew ?_ | refine blk_alloc ?_ _)); refine blk_far ?_ NB156_159.out _; (with_reducible repeat (first | refine blk_drewN ?_ _ | refine blk_drew ?_ | refine blk_alloc ?_ _)); refine blk_far ?_ NB156_159.out _; (with_reducible repeat (first | refine blk_drewN ?_ _ | refine blk_drew ?_ | refine blk_alloc ?_ _)); refine blk_far ?_ NB156_159.out _; (with_reducible repeat (first | refine blk_drewN ?_ _ | refine blk_drew ?_ | refine blk_alloc ?_ _)); exact BK156.out⟩
                    have n1_ : Aside0 ((((w19.setCell ⟨gb159, 0, none⟩ (.int .i64 ((rd_T65 l0 x9_1).f0))).setCell ⟨gb159, 1, none⟩ (.int .i64 ((rd_T65 l0 x9_1).f1))).setCell ⟨gb159, 2, none⟩ (.int .i64 ((rd_T65 l0 x9_1).f2))).heap[gb157]? = some (.cells (⟨Arr.arL .i64 x158000_1⟩ : Array Value) 70 (0, 0))) := ⟨by (with_reducible repeat (first | refine blk_drewN ?_ _ | refine blk_drew ?_ | refine blk_alloc ?_ _)); refine blk_far ?_ NB157_159.out _; (with_reducible repeat (first | refine blk_drewN ?_ _ | refine blk_drew ?_ | refine blk_alloc ?_ _)); refine blk_far ?_ NB157_159.out _; (with_reducible repeat (first | refine blk_drewN ?_ _ | refine blk_drew ?_ | refine blk_alloc ?_ _)); refine blk_far ?_ NB157_159.out _; (with_reducible repeat (first | refine blk_drewN ?_ _ | refine blk_drew ?_ | refine blk_alloc ?_ _)); exact BK157.out⟩
                    have n2_ : Aside0 ((((w19.setCell ⟨gb159, 0, none⟩ (.int .i64 ((rd_T65 l0 x9_1).f0))).setCell ⟨gb159, 1, none⟩ (.int .i64 ((rd_T65 l0 x9_1).f1))).setCell ⟨gb159, 2, none⟩ (.int .i64 ((rd_T65 l0 x9_1).f2))).heap[gb159]? = some (.cells #[.int .i64 ((rd_T65 l0 x9_1).f0), .int .i64 ((rd_T65 l0 x9_1).f1), .int .i64 ((rd_T65 l0 x9_1).f2)] 65 (0, 0))) := ⟨by (with_reducible repeat (first | refine blk_drewN ?_ _ | refine blk_drew ?_ | refine blk_alloc ?_ _)); refine blk_put (cs := #[.int .i64 ((rd_T65 l0 x9_1).f0), .int .i64 ((rd_T65 l0 x9_1).f1), .int .i64 0]) ?_ 2 _ rfl; (with_reducible repeat (first | refine blk_drewN ?_ _ | refine blk_drew ?_ | refine blk_alloc ?_ _)); refine blk_put (cs := #[.int .i64 ((rd_T65 l0 x9_1).f0), .int .i64 0, .int .i64 0]) ?_ 1 _ rfl; (with_reducible repeat (first | refine blk_drewN ?_ _ | refine blk_drew ?_ | refine blk_alloc ?_ _)); refine blk_put (cs := #[.int .i64 0, .int .i64 0, .int .i64 0]) ?_ 0 _ rfl; (with_reducible repeat (first | refine blk_drewN ?_ _ | refine blk_drew ?_ | refine blk_alloc ?_ _)); exact BK159.out⟩
                    have n3_ : Aside0 (Below w.heap.size w (((w19.setCell ⟨gb159, 0, none⟩ (.int .i64 ((rd_T65 l0 x9_1).f0))).setCell ⟨gb159, 1, none⟩ (.int .i64 ((rd_T65 l0 x9_1).f1))).setCell ⟨gb159, 2, none⟩ (.int .i64 ((rd_T65 l0 x9_1).f2)))) := ⟨by repeat (first | (with_reducible first | exact HB.out | apply below_alloc | apply pw_below_drewN | apply below_drew1 | refine below_set ?_ GE156.out | refine below_set ?_ GE157.out | refine below_set ?_ GE159.out) | exact HB.out)⟩
                    (try clear BK156)
                    (try clear BK157)
                    (try clear BK159)
                    (try clear HB)
                    generalize (((w19.setCell ⟨gb159, 0, none⟩ (.int .i64 ((rd_T65 l0 x9_1).f0))).setCell ⟨gb159, 1, none⟩ (.int .i64 ((rd_T65 l0 x9_1).f1))).setCell ⟨gb159, 2, none⟩ (.int .i64 ((rd_T65 l0 x9_1).f2))) = w23 at n0_ n1_ n2_ n3_ ⊢
                    have BK156 := n0_
                    have BK157 := n1_
                    have BK159 := n2_
                    have HB := n3_
                    clear n0_ n1_ n2_ n3_
                    have n0_ := Aside0.mk (blk_drew BK156.out)
                    have n1_ := Aside0.mk (blk_drew BK157.out)
                    have n2_ := Aside0.mk (blk_drew BK159.out)
                    have n3_ := Aside0.mk (below_drew1 HB.out)
                    clear BK156
                    clear BK157
                    clear BK159
                    clear HB
                    have BK156 := n0_
                    have BK157 := n1_
                    have BK159 := n2_
                    have HB := n3_
                    clear n0_ n1_ n2_ n3_
                    have p11 : 0 ≤ (((rd_T65 l0 x9_1).f0) : Int) := of_decide_eq_true (by first | (with_reducible assumption) | assumption)
                    have q11 : (((rd_T65 l0 x9_1).f0) : Int) < 16 := of_decide_eq_true (by first | (with_reducible assumption) | assumption)
                    replace p11 := eq_true p11
                    replace q11 := eq_true q11
                    have p14 : 0 ≤ (((rd_T65 l0 x9_1).f1) : Int) := of_decide_eq_true (by first | (with_reducible assumption) | assumption)
                    have q14 : (((rd_T65 l0 x9_1).f1) : Int) < 16 := of_decide_eq_true (by first | (with_reducible assumption) | assumption)
                    replace p14 := eq_true p14
                    replace q14 := eq_true q14
                    have p16 : 0 ≤ (((rd_T65 l0 x9_1).f0) : Int) := of_decide_eq_true (by first | (with_reducible assumption) | assumption)
                    have q16 : (((rd_T65 l0 x9_1).f0) : Int) < 16 := of_decide_eq_true (by first | (with_reducible assumption) | assumption)
                    replace p16 := eq_true p16
                    replace q16 := eq_true q16
                    have p17 : 0 ≤ (((rd_T65 l0 x9_1).f1) : Int) := of_decide_eq_true (by first | (with_reducible assumption) | assumption)
                    have q17 : (((rd_T65 l0 x9_1).f1) : Int) < 16 := of_decide_eq_true (by first | (with_reducible assumption) | assumption)
                    replace p17 := eq_true p17
                    replace q17 := eq_true q17
                    refine start_ (n := 13) (S := fun w' => w'.cell? ⟨gb159, 0, none⟩ = some (.int .i64 ((rd_T65 l0 x9_1).f0)) ∧ w'.cell? ⟨gb159, 1, none⟩ = some (.int .i64 ((rd_T65 l0 x9_1).f1)) ∧ w'.cell? ⟨gb159, 2, none⟩ = some (.int .i64 ((rd_T65 l0 x9_1).f2)) ∧ w'.cell? ⟨gb157, ((rd_T65 l0 x9_1).f0).toNat * 16 + ((rd_T65 l0 x9_1).f1).toNat, none⟩ = some (.int .i64 (Arr.vrd2 16 x158000_1 ((rd_T65 l0 x9_1).f0) ((rd_T65 l0 x9_1).f1)))) (ds := [12]) #[false, false, false, false, false, false, false, false, false, false, false, false, false] (by kernel_rfl) rfl rfl ⟨(blk_cell BK159.out 0).trans rfl, (blk_cell BK159.out 1).trans rfl, (blk_cell BK159.out 2).trans rfl, (Arr.cellN (off := 0) (l := (Arr.arL .i64 x158000_1)) (BK157.out) rfl (((rd_T65 l0 x9_1).f0).toNat * 16 + ((rd_T65 l0 x9_1).f1).toNat) (((rd_T65 l0 x9_1).f0).toNat * 16 + ((rd_T65 l0 x9_1).f1).toNat) (by omega) (by have a0_ := of_eq_true p11; have b0_ := of_eq_true q11; have a1_ := of_eq_true p14; have b1_ := of_eq_true q14; omega))⟩ (fun hHeld => ?_); refine with_tabW impl_sumsOf.tab5 impl_sumsOf.bits5 (fun HT_ HW_ => ?_)
                    generalize w23.drew = w24 at BK156 BK157 BK159 HB hHeld ⊢
                    refine pure_ (i := 0) (N := some 13) (v := ?_) (a' := ?_) #[true, false, false, false, false, false, false, false, false, false, false, false, false] rfl rfl (any_of HT_.out (by kernel_rfl)) (fun _ _ _ h => h) (Or.inl ⟨by rfl, ?_⟩) ?_ ?_
                    rotate_left
                    · intro w'
                      go_simp
                      with_reducible rfl
                    rotate_left
                    · simp only [Act.put, List.setIfInBounds_toArray, List.set_cons_zero, List.set_cons_succ, i64_w, i32_w]
                      rfl
                    refine pure_ (i := 2) (N := some 15) (v := ?_) (a' := ?_) #[true, false, true, false, false, false, false, false, false, false, false, false, false] rfl rfl (any_of HT_.out (by kernel_rfl)) (fun _ _ _ h => h) (Or.inl ⟨by rfl, ?_⟩) ?_ ?_
                    rotate_left
                    · intro w'
                      go_simp
                      with_reducible rfl
                    rotate_left
                    · simp only [Act.put, List.setIfInBounds_toArray, List.set_cons_zero, List.set_cons_succ, i64_w, i32_w]
                      rfl
                    refine pure_ (i := 7) (N := some 20) (v := ?_) (a' := ?_) #[true, false, true, false, false, false, false, true, false, false, false, false, false] rfl rfl (any_of HT_.out (by kernel_rfl)) (fun _ _ _ h => h) (Or.inl ⟨by rfl, ?_⟩) ?_ ?_
                    rotate_left
                    · intro w'
                      go_simp
                      with_reducible rfl
                    rotate_left
                    · simp only [Act.put, List.setIfInBounds_toArray, List.set_cons_zero, List.set_cons_succ, i64_w, i32_w]
                      rfl
                    refine take_ (i := 1) (N := some 14) (v := ?_) (a' := ?_) #[true, true, true, false, false, false, false, true, false, false, false, false, false] rfl rfl (take_ofW HT_.out HW_.out (by kernel_rfl)) (fun _ _ _ h => h) (Or.inl ⟨by rfl, ?_⟩) hHeld ?_ ?_
                    rotate_left
                    · rintro w' ⟨s0, s1, s2, s3⟩
                      go_simp
                      with_reducible rfl
                    rotate_left
                    · simp only [Act.put, List.setIfInBounds_toArray, List.set_cons_zero, List.set_cons_succ, i64_w, i32_w]
                      rfl
                    refine pure_ (i := 4) (N := some 17) (v := ?_) (a' := ?_) #[true, true, true, false, true, false, false, true, false, false, false, false, false] rfl rfl (any_of HT_.out (by kernel_rfl)) (fun _ _ _ h => h) (Or.inl ⟨by rfl, ?_⟩) ?_ ?_
                    rotate_left
                    · intro w'
                      go_simp
                      with_reducible rfl
                    rotate_left
                    · simp only [Act.put, List.setIfInBounds_toArray, List.set_cons_zero, List.set_cons_succ, i64_w, i32_w]
                      rfl
                    refine pure_ (i := 10) (N := some 23) (v := ?_) (a' := ?_) #[true, true, true, false, true, false, false, true, false, false, true, false, false] rfl rfl (any_of HT_.out (by kernel_rfl)) (fun _ _ _ h => h) (Or.inl ⟨by rfl, ?_⟩) ?_ ?_
                    rotate_left
                    · intro w'
                      go_simp
                      with_reducible rfl
                    rotate_left
                    · simp only [Act.put, List.setIfInBounds_toArray, List.set_cons_zero, List.set_cons_succ, i64_w, i32_w]
                      rfl
                    refine take_ (i := 3) (N := some 16) (v := ?_) (a' := ?_) #[true, true, true, true, true, false, false, true, false, false, true, false, false] rfl rfl (take_ofW HT_.out HW_.out (by kernel_rfl)) (fun _ _ _ h => h) (Or.inl ⟨by rfl, ?_⟩) hHeld ?_ ?_
                    rotate_left
                    · rintro w' ⟨s0, s1, s2, s3⟩
                      go_simp
                      with_reducible rfl
                    rotate_left
                    · simp only [Act.put, List.setIfInBounds_toArray, List.set_cons_zero, List.set_cons_succ, i64_w, i32_w]
                      rfl
                    refine pure_ (i := 5) (N := some 18) (v := ?_) (a' := ?_) #[true, true, true, true, true, true, false, true, false, false, true, false, false] rfl rfl (any_of HT_.out (by kernel_rfl)) (fun _ _ _ h => h) (Or.inl ⟨by rfl, ?_⟩) ?_ ?_
                    rotate_left
                    · intro w'
                      go_simp
                      with_reducible rfl
                    rotate_left
                    · simp only [Act.put, List.setIfInBounds_toArray, List.set_cons_zero, List.set_cons_succ, i64_w, i32_w]
                      rfl
                    refine take_ (i := 6) (N := some 19) (v := ?_) (a' := ?_) #[true, true, true, true, true, true, true, true, false, false, true, false, false] rfl rfl (take_ofW HT_.out HW_.out (by kernel_rfl)) (fun _ _ _ h => h) (Or.inl ⟨by rfl, ?_⟩) hHeld ?_ ?_
                    rotate_left
                    · rintro w' ⟨s0, s1, s2, s3⟩
                      go_simp
                      with_reducible rfl
                    rotate_left
                    · simp only [Act.put, List.setIfInBounds_toArray, List.set_cons_zero, List.set_cons_succ, i64_w, i32_w]
                      rfl
                    refine take_ (i := 8) (N := some 21) (v := ?_) (a' := ?_) #[true, true, true, true, true, true, true, true, true, false, true, false, false] rfl rfl (take_ofW HT_.out HW_.out (by kernel_rfl)) (fun _ _ _ h => h) (Or.inl ⟨by rfl, ?_⟩) hHeld ?_ ?_
                    rotate_left
                    · rintro w' ⟨s0, s1, s2, s3⟩
                      go_simp
                      with_reducible rfl
                    rotate_left
                    · simp only [Act.put, List.setIfInBounds_toArray, List.set_cons_zero, List.set_cons_succ, i64_w, i32_w]
                      rfl
                    refine pure_ (i := 9) (N := some 22) (v := ?_) (a' := ?_) #[true, true, true, true, true, true, true, true, true, true, true, false, false] rfl rfl (any_of HT_.out (by kernel_rfl)) (fun _ _ _ h => h) (Or.inl ⟨by rfl, ?_⟩) ?_ ?_
                    rotate_left
                    · intro w'
                      go_simp
                      with_reducible rfl
                    rotate_left
                    · simp only [Act.put, List.setIfInBounds_toArray, List.set_cons_zero, List.set_cons_succ, i64_w, i32_w]
                      rfl
                    refine pure_ (i := 11) (N := some 24) (v := ?_) (a' := ?_) #[true, true, true, true, true, true, true, true, true, true, true, true, false] rfl rfl (any_of HT_.out (by kernel_rfl)) (fun _ _ _ h => h) (Or.inl ⟨by rfl, ?_⟩) ?_ ?_
                    rotate_left
                    · intro w'
                      go_simp
                      with_reducible rfl
                    rotate_left
                    · simp only [Act.put, List.setIfInBounds_toArray, List.set_cons_zero, List.set_cons_succ, i64_w, i32_w]
                      rfl
                    refine last_ (i := 12) (N := none) #[true, true, true, true, true, true, true, true, true, true, true, true, true] rfl rfl (one_of HT_.out (by kernel_rfl)) (by decide) (fun K hK => ?_)
                    have hx18 : w24.cell? ⟨gb157, ((rd_T65 l0 x9_1).f0).toNat * 16 + ((rd_T65 l0 x9_1).f1).toNat, none⟩ = some (.int .i64 (Arr.vrd2 16 x158000_1 ((rd_T65 l0 x9_1).f0) ((rd_T65 l0 x9_1).f1))) := Arr.cellN (off := 0) (l := (Arr.arL .i64 x158000_1)) (show w24.heap[gb157]? = some (.cells (⟨Arr.arL .i64 x158000_1⟩ : Array Value) 70 (0, 0)) from by (with_reducible repeat (first | refine blk_drewN ?_ _ | refine blk_drew ?_ | refine blk_alloc ?_ _)); exact BK157.out) rfl (((rd_T65 l0 x9_1).f0).toNat * 16 + ((rd_T65 l0 x9_1).f1).toNat) (((rd_T65 l0 x9_1).f0).toNat * 16 + ((rd_T65 l0 x9_1).f1).toNat) (by omega) (by have a0_ := of_eq_true p16; have b0_ := of_eq_true q16; have a1_ := of_eq_true p17; have b1_ := of_eq_true q17; omega)
                    have hf18 := blk_frozen (show w24.heap[gb157]? = some (.cells (⟨Arr.arL .i64 x158000_1⟩ : Array Value) 70 (0, 0)) from by (with_reducible repeat (first | refine blk_drewN ?_ _ | refine blk_drew ?_ | refine blk_alloc ?_ _)); exact BK157.out) (((rd_T65 l0 x9_1).f0).toNat * 16 + ((rd_T65 l0 x9_1).f1).toNat)
                    refine skip_ (w1 := w24.setCell ⟨gb157, ((rd_T65 l0 x9_1).f0).toNat * 16 + ((rd_T65 l0 x9_1).f1).toNat, none⟩ (.int .i64 (wrap64 ((Arr.vrd2 16 x158000_1 ((rd_T65 l0 x9_1).f0) ((rd_T65 l0 x9_1).f1)) + ((rd_T65 l0 x9_1).f2))))) (by rfl) rfl ?_ ?_
                    · first | (go_simp; done) | (go_simp; rfl)
                    refine hK.out _ _ ?_
                    clear hK K
                    refine done_ (done_of HT_.out (by kernel_rfl)) ?_
                    obtain ⟨w25, hw_, hbx, hg, hbe⟩ := Arr.stored_at (g := gb157) (off := 0) (m := ((rd_T65 l0 x9_1).f0).toNat * 16 + ((rd_T65 l0 x9_1).f1).toNat) (n := ((rd_T65 l0 x9_1).f0).toNat * 16 + ((rd_T65 l0 x9_1).f1).toNat) (k := .i64) (y := (wrap64 ((Arr.vrd2 16 x158000_1 ((rd_T65 l0 x9_1).f0) ((rd_T65 l0 x9_1).f1)) + ((rd_T65 l0 x9_1).f2)))) (x := x158000_1) (t := 70) (pre := []) (show w24.heap[gb157]? = some (.cells (⟨Arr.arL .i64 x158000_1⟩ : Array Value) 70 (0, 0)) from by (with_reducible repeat (first | refine blk_drewN ?_ _ | refine blk_drew ?_ | refine blk_alloc ?_ _)); exact BK157.out) rfl (by omega)
                    rw [hw_]
                    clear hw_
                    replace hbx : w25.heap[gb157]? = some (.cells (⟨Arr.arL .i64 y160⟩ : Array Value) 70 (0, 0)) := (by rw [Ny160.out]; exact hbx)
                    have n0_ := Aside0.mk (blk_grown (g := gb156) (o := .cells (⟨Arr.arL .i64 (Vector.replicate 256 0 : Vector Int 256)⟩ : Array Value) 70 (0, 0)) (by (with_reducible repeat (first | refine blk_drewN ?_ _ | refine blk_drew ?_ | refine blk_alloc ?_ _)); exact BK156.out) hg (fun e_ => NB156_157.out (Option.some.inj e_)))
                    have n1_ := Aside0.mk (hbx)
                    have n2_ := Aside0.mk (blk_grown (g := gb159) (o := .cells #[.int .i64 ((rd_T65 l0 x9_1).f0), .int .i64 ((rd_T65 l0 x9_1).f1), .int .i64 ((rd_T65 l0 x9_1).f2)] 65 (0, 0)) (by (with_reducible repeat (first | refine blk_drewN ?_ _ | refine blk_drew ?_ | refine blk_alloc ?_ _)); exact BK159.out) hg (fun e_ => NB159_157.out (Option.some.inj e_)))
                    have n3_ := Aside0.mk (hbe _ _ (by repeat (first | (with_reducible first | exact HB.out | apply below_alloc | apply pw_below_drewN | apply below_drew1 | refine below_set ?_ GE156.out | refine below_set ?_ GE157.out | refine below_set ?_ GE159.out) | exact HB.out)) GE157.out)
                    clear BK156
                    clear BK157
                    clear BK159
                    clear HB
                    have BK156 := n0_
                    have BK157 := n1_
                    have BK159 := n2_
                    have HB := n3_
                    clear n0_ n1_ n2_ n3_
                    (try clear hbx hg hbe)
                    try go_wp2
                    go_roundg k1
                    case measure => have := HK1.out; omega
                    case rel => exact ⟨(wrap64 (x9_1 + 1)), (y160), (by first | rfl | (simp; done) | (simp [*]; done)), H', ⟨by have := HK1.out; omega⟩, ⟨by (with_reducible repeat (first | refine blk_drewN ?_ _ | refine blk_drew ?_ | refine blk_alloc ?_ _)); exact BK156.out⟩, ⟨by (with_reducible repeat (first | refine blk_drewN ?_ _ | refine blk_drew ?_ | refine blk_alloc ?_ _)); exact BK157.out⟩, ⟨by repeat (first | (with_reducible first | exact HB.out | apply below_alloc | apply pw_below_drewN | apply below_drew1 | refine below_set ?_ GE156.out | refine below_set ?_ GE157.out | refine below_set ?_ GE159.out) | exact HB.out)⟩⟩
                  · rw [if_neg c13] at H
                    exact absurd H (by simp)
                · rw [if_neg c12] at H
                  exact absurd H (by simp)
              · rw [if_neg c10] at H
                exact absurd H (by simp)
            · rw [if_neg c9] at H
              exact absurd H (by simp)
          · rw [if_neg c8] at H
            exact absurd H (by simp)
        · rw [if_neg c7] at H
          exact absurd H (by simp)
      · rw [if_neg c6] at H
        have c6b0 : decide (x9_1 < (l0.length : Int)) = false := decide_eq_false c6
        clear c6
        obtain rfl := Option.some.inj H
        go_wp2_with (first | ((with_reducible refine Arr.gate_load (t := 70) (p := 3) rfl ?_); (try (refine gate_guard (by rfl) ?_; dsimp only)); refine Arr.loadA ?hg (T := 70) (p := 3) ?ho (g := gb157) (off := 0) ?hx (t := 70) (l := (Arr.arL .i64 x158000_1)) (m := (Arr.arL .i64 x158000_1)) (fr := (0, 0)) (show wr.heap[gb157]? = some (.cells (⟨Arr.arL .i64 x158000_1⟩ : Array Value) 70 (0, 0)) from by (with_reducible repeat (first | refine blk_drewN ?_ _ | refine blk_drew ?_ | refine blk_alloc ?_ _)); exact BK157.out) rfl Try.underlying70 rfl (n := 256) (by kernel_rfl) (by simp [Arr.arL_length]) ?_; (case hg => rfl); (case ho => rfl); (case hx => first | (go_simp; done) | rfl | (go_simp; rfl))) | ((with_reducible refine gate_store (t := 70) (p := 2) rfl ?_); refine Arr.storeA ?hg (T := 70) (p := 2) (v := ?vo_w28) ?ho ?hn (g := gb156) (off := 0) ?hx (m := (Arr.arL .i64 x158000_1)) ?hy (t := 70) (pre := []) (old := (Arr.arL .i64 (Vector.replicate 256 0 : Vector Int 256))) (show wr.heap[gb156]? = some (.cells (⟨Arr.arL .i64 (Vector.replicate 256 0 : Vector Int 256)⟩ : Array Value) 70 (0, 0)) from by (with_reducible repeat (first | refine blk_drewN ?_ _ | refine blk_drew ?_ | refine blk_alloc ?_ _)); exact BK156.out) rfl (by simp [Arr.arL_length]) (n := 256) (by kernel_rfl) (by simp [Arr.arL_length]) (Arr.ones_0 ) ?_; (case ho => rfl); (case hg => rfl); (case hn => rfl); (case hx => first | (go_simp; done) | rfl | (go_simp; rfl)); (case hy => first | (go_simp; done) | rfl | (go_simp; rfl)); intro w28 hbx hg hbe; replace hbx : w28.heap[gb156]? = some (.cells (⟨Arr.arL .i64 x158000_1⟩ : Array Value) 70 (0, 0)) := hbx; have n0_ := Aside0.mk (hbx); have n1_ := Aside0.mk (blk_grown (g := gb157) (o := .cells (⟨Arr.arL .i64 x158000_1⟩ : Array Value) 70 (0, 0)) (by (with_reducible repeat (first | refine blk_drewN ?_ _ | refine blk_drew ?_ | refine blk_alloc ?_ _)); exact BK157.out) hg (fun e_ => NB157_156.out (Option.some.inj e_))); have n2_ := Aside0.mk (hbe _ _ (by repeat (first | (with_reducible first | exact HB.out | apply below_alloc | apply pw_below_drewN | apply below_drew1 | refine below_set ?_ GE156.out | refine below_set ?_ GE157.out) | exact HB.out)) GE156.out); clear BK156; clear BK157; clear HB; have BK156 := n0_; have BK157 := n1_; have HB := n2_; clear n0_ n1_ n2_; (try clear hbx hg hbe)))
        refine bodyPost_ret (results_cell_row rfl _ _ gb156 70 (⟨Arr.arL .i64 x158000_1⟩ : Array Value) (0, 0) _ rfl (by (with_reducible repeat (first | refine blk_drewN ?_ _ | refine blk_drew ?_ | refine blk_alloc ?_ _)); exact BK156.out) Try.underlying70 rfl (by rw [show (Try.prog.info? 70).map (·.size) = some 256 from by kernel_rfl]; simp [Arr.arL_length])) rfl ?_
        exact ⟨by first | rfl | (simp [errW_none, errW_some] <;> rfl) | (simp [*, errW_none, errW_some] <;> rfl), by repeat (first | (with_reducible first | exact HB.out | apply below_alloc | apply pw_below_drewN | apply below_drew1 | refine below_set ?_ GE156.out | refine below_set ?_ GE157.out) | exact HB.out)⟩

end Go.Proofs.Ytofcgkcpkngocaa.MJoinDebts
