-- by a program of this session, for this claim
import Derived.Test.YtfjmljgbdejghaaDoorMReadHalfx0
import Derived.Test.YtfjmljgbdejghaaDoorMReadHalfx1
import Derived.Test.YtfjmljgbdejghaaDoorMReadHalfx5
import Derived.Test.YtfjmljgbdejghaaDoorMReadHalfx8
namespace Go.Proofs.YtfjmljgbdejghaaDoor.MReadHalf
open Go.RowKit Go.Proofs.YtfjmljgbdejghaaDoorW.PrintWords Go.Proofs.YtfjmljgbdejghaaDoorW.PrintLast Go.Proofs.YtfjmljgbdejghaaDoorW.PrintMore
attribute [local go_sem] max2_int min2_int max_two min_two max_three min_three max_four min_four   -- for this text's walks alone
set_option linter.unusedVariables false
set_option linter.unusedSimpArgs false

/-! ### laws_markNotchS: function 77 -/
def laws_markNotchS.l0 : Nat → List (S62) → Int → Int → Option (Int × (List (S62)))
  | 0, _, _, _ => none
  | k + 1, x0, x1, x5 => if x5 < (x0.length : Int) then (if 0 ≤ x5 then ((some (x0.set (x5 : Int).toNat (⟨IntKind.i8.wrap (x1), (rd_T62 x0 x5).f1⟩ : S62) : List (S62))).bind fun y216 => (laws_markNotchS.l0 k (y216.set (x5 : Int).toNat (⟨(rd_T62 y216 x5).f0, IntKind.i16.wrap (wrap64 (x1 + 1))⟩ : S62)) (wrap64 ((wrap64 (x1 + 1)) + 1)) (wrap64 (x5 + 1)))) else (none)) else (some (x1, x0))
def laws_markNotchS.f (k : Nat) (l0 : List (S62)) (a1 : Int) : Option (Int × (List (S62))) := laws_markNotchS.l0 k l0 a1 0
theorem laws_markNotchS.mono_l : ∀ k, (∀ y0 y1 y2, LeO (laws_markNotchS.l0 k y0 y1 y2) (laws_markNotchS.l0 (k + 1) y0 y1 y2))
  | 0 => fun _ _ _ r h => by simp [laws_markNotchS.l0] at h
  | k + 1 => by
    have ih0 := laws_markNotchS.mono_l k
    · intro y0 y1 y2
      unfold laws_markNotchS.l0
      repeat' first
      | (with_reducible exact ih0 _ _ _)
      | (with_reducible exact LeO.refl _)
      | (with_reducible exact LeO.none _)
      | (with_reducible refine LeO.ite ?_ ?_)
      | (with_reducible refine LeO.bind ?_ (fun _ => ?_))
      | exact ih0 _ _ _
      | exact LeO.none _
      | refine LeO.ite ?_ ?_
      | refine LeO.bind ?_ (fun _ => ?_)
theorem laws_markNotchS.mono : ∀ a0 a1 k, LeO (laws_markNotchS.f k a0 a1) (laws_markNotchS.f (k + 1) a0 a1) := by
  intro a0 a1 k
  have ih0 := laws_markNotchS.mono_l k
  unfold laws_markNotchS.f
  repeat' first
      | (with_reducible exact ih0 _ _ _)
      | (with_reducible exact LeO.refl _)
      | (with_reducible exact LeO.none _)
      | (with_reducible refine LeO.ite ?_ ?_)
      | (with_reducible refine LeO.bind ?_ (fun _ => ?_))
      | exact ih0 _ _ _
      | exact LeO.none _
      | refine LeO.ite ?_ ?_
      | refine LeO.bind ?_ (fun _ => ?_)
set_option maxHeartbeats 8000000 in
set_option maxRecDepth 100000 in
theorem laws_markNotchS.calls (k : Nat) (P0_ : Nat → Prop) (u9000_ : Value) (l0 : List (S62)) (a1 : Int) (r1 : Int) (r2 : List (S62)) (w0 w : World) (hB : Below w0.heap.size w0 w) (ho0 : Kd.R k62 62 w w0.heap.size P0_ u9000_ l0) (h : laws_markNotchS.f k l0 a1 = some (r1, r2)) :
    Calls Tryd.prog 77 #[u9000_, .int .i64 a1] w fun e w' => e = .returned (.int .i64 r1) ∧ Kd.R k62 62 w' w0.heap.size (fun k_ => (P0_ k_ ∨ w.heap.size ≤ k_)) u9000_ r2 ∧ Below w0.heap.size w0 w' ∧ Kept w w' (fun k_ => P0_ k_) := by
  have HO0 := Aside0.mk (show Kd.R k62 62 w w0.heap.size (fun k_ => (P0_ k_ ∨ w.heap.size ≤ k_)) u9000_ l0 from Kd.R_mono ho0 (fun k_ hk => (.inl hk)))
  have HK := Aside0.mk (Kept.refl w (fun k_ => P0_ k_))
  have HW0 := Aside0.mk hB.size
  have HB := Aside0.mk hB
  clear hB
  have H : (laws_markNotchS.l0 k l0 a1 0) = some (r1, r2) := h
  clear h
  have H' := Aside0.mk H
  clear H
  go_enter Tryd.func77, Tryd.ntmps77
  go_wp2
  go_loopg [1, 5] k (fun kq v1 v5 w' => ∃ (x0_1 : List (S62)) (x1_1 : Int) (x5_1 : Int), v1 = .int .i64 x1_1 ∧ v5 = .int .i64 x5_1 ∧ Aside0 (laws_markNotchS.l0 kq x0_1 x1_1 x5_1 = some (r1, r2)) ∧ Aside0 (kq ≤ k) ∧ Aside0 (Kd.R k62 62 w' w0.heap.size (fun k_ => (P0_ k_ ∨ w.heap.size ≤ k_)) u9000_ x0_1) ∧ Aside0 (Kept w w' (fun k_ => P0_ k_)) ∧ Aside0 (Below w0.heap.size w0 w'))
  case atStart => exact ⟨(l0), (a1), (0), (by first | rfl | (simp; done) | (simp [*]; done)), (by first | rfl | (simp; done) | (simp [*]; done)), H', ⟨Nat.le_refl _⟩, ⟨by (with_reducible repeat (first | apply Kd.R_alloc | apply Kd.R_drewN | apply Kd.R_drew)); exact HO0.out⟩, ⟨by repeat (first | (with_reducible first | exact HK.out | apply Kept.alloc | apply Kept.drewN | apply Kept.drew) | exact HK.out)⟩, ⟨by repeat (first | (with_reducible first | exact HB.out | apply below_alloc | apply pw_below_drewN | apply below_drew1) | exact HB.out)⟩⟩
  case round =>
    clear H'
    try clear p2
    obtain ⟨x0_1, x1_1, x5_1, rfl, rfl, HA, HK1, HO_0, HK, HB⟩ := hrel
    cases gk with
    | zero => exact absurd HA.out (by simp [laws_markNotchS.l0])
    | succ k1 =>
      have H := HA.out
      clear HA
      simp only [laws_markNotchS.l0] at H
      by_cases c3 : x5_1 < (x0_1.length : Int)
      · rw [if_pos c3] at H
        have c3b0 : decide (x5_1 < (x0_1.length : Int)) = true := decide_eq_true c3
        clear c3
        by_cases c4 : 0 ≤ x5_1
        · rw [if_pos c4] at H
          have c4b0 : decide (0 ≤ x5_1) = true := decide_eq_true c4
          clear c4
          obtain ⟨y216, hy216⟩ : ∃ y_ : List (S62), y_ = (x0_1.set (x5_1 : Int).toNat (⟨IntKind.i8.wrap (x1_1), (rd_T62 x0_1 x5_1).f1⟩ : S62)) := ⟨_, rfl⟩
          replace H : (laws_markNotchS.l0 k1 (y216.set (x5_1 : Int).toNat (⟨(rd_T62 y216 x5_1).f0, IntKind.i16.wrap (wrap64 (x1_1 + 1))⟩ : S62)) (wrap64 ((wrap64 (x1_1 + 1)) + 1)) (wrap64 (x5_1 + 1))) = some (r1, r2) := by first | (rw [hy216]; with_reducible exact H) | (have H2_ := (Option.bind_some _ _).symm.trans H; rw [hy216]; with_reducible exact H2_) | (have H2_ := (Option.bind_some _ _).symm.trans H; with_reducible exact H2_) | with_reducible exact H | (rw [hy216]; exact H) | exact H
          have Ny216 := Aside0.mk hy216
          clear hy216
          obtain ⟨y217, hy217⟩ : ∃ y_ : List (S62), y_ = (y216.set (x5_1 : Int).toNat (⟨(rd_T62 y216 x5_1).f0, IntKind.i16.wrap (wrap64 (x1_1 + 1))⟩ : S62)) := ⟨_, rfl⟩
          replace H : (laws_markNotchS.l0 k1 y217 (wrap64 ((wrap64 (x1_1 + 1)) + 1)) (wrap64 (x5_1 + 1))) = some (r1, r2) := by first | (rw [hy217]; with_reducible exact H) | (have H2_ := (Option.bind_some _ _).symm.trans H; rw [hy217]; with_reducible exact H2_) | (have H2_ := (Option.bind_some _ _).symm.trans H; with_reducible exact H2_) | with_reducible exact H | (rw [hy217]; exact H) | exact H
          have Ny217 := Aside0.mk hy217
          clear hy217
          have H' := Aside0.mk H
          clear H
          obtain ⟨Ao7, co7, eo7⟩ := Kd.R_slice HO_0.out
          subst eo7
          have p5 : 0 ≤ (x5_1 : Int) := of_decide_eq_true (by first | (with_reducible assumption) | assumption)
          have q5 : (x5_1 : Int) < ((x0_1.length : Int) : Int) := of_decide_eq_true (by first | (with_reducible assumption) | assumption)
          obtain ⟨go5, co5, eo5, gb5, gl5, cl5, HG5⟩ := Kd.R_form HO_0.out (by omega)
          (first | cases eo5 | (injection eo5 with ea_ en_ ec_; (first | subst ea_ | (injection ea_ with ea_; subst ea_)); subst ec_; clear en_))
          have GB5 := Aside0.mk gb5
          have GG5 := Aside0.mk HG5
          clear gb5 gl5 HG5
          have HMgo5 := Aside0.mk (show (P0_ go5 ∨ w.heap.size ≤ go5) from (HO_0.out.1 _ rfl))
          obtain ⟨ce5, hcl5, hM5, hcc5, hfr5⟩ := Kd.R_elem HO_0.out z62 (x5_1 : Int) p5 q5
          obtain rfl := k62_openM hM5
          have hx5_0 : wr.cell? ⟨go5, (x5_1 : Int).toNat * 2, none⟩ = some (.int .i8 ((rd_T62 x0_1 x5_1).f0)) := hcc5 0 _ rfl
          have hx5_1 : wr.cell? ⟨go5, (x5_1 : Int).toNat * 2 + 1, none⟩ = some (.int .i16 ((rd_T62 x0_1 x5_1).f1)) := hcc5 1 _ rfl
          have hf5_0 : wr.frozen? ⟨go5, (x5_1 : Int).toNat * 2, none⟩ = false := hfr5 0
          have hf5_1 : wr.frozen? ⟨go5, (x5_1 : Int).toNat * 2 + 1, none⟩ = false := hfr5 1
          clear hcl5 hcc5 hfr5 hM5
          replace p5 := eq_true p5
          replace q5 := eq_true q5
          have HX8 := Aside0.mk (show Kd.R k62 62 wr w0.heap.size (fun k_ => (P0_ k_ ∨ w.heap.size ≤ k_)) (.slice (some ⟨go5, 0, none⟩) x0_1.length co7) x0_1 from (by (with_reducible repeat (first | apply Kd.R_alloc | apply Kd.R_drewN | apply Kd.R_drew)); exact HO_0.out))
          obtain ⟨ce8, hcl8, hM8, hcc8, hfr8⟩ := Kd.R_elem HX8.out z62 (x5_1 : Int) (of_decide_eq_true (by first | (with_reducible assumption) | assumption)) (by have h_ : (x5_1 : Int) < ((x0_1.length : Int) : Int) := of_decide_eq_true (by first | (with_reducible assumption) | assumption); first | exact h_ | (have e_ := (Kd.R_reads' HO_0.out).1; omega) | simpa using h_)
          obtain rfl := k62_openM hM8
          have HP8 := Kd.R_seg HX8.out (x5_1 : Int) (of_decide_eq_true (by first | (with_reducible assumption) | assumption)) (by have h_ : (x5_1 : Int) < ((x0_1.length : Int) : Int) := of_decide_eq_true (by first | (with_reducible assumption) | assumption); first | exact h_ | (have e_ := (Kd.R_reads' HO_0.out).1; omega) | simpa using h_) (seg := [.int .i8 (IntKind.i8.wrap (x1_1))]) (j := 0) hcl8 hcc8 (show 1 ≤ 2 from by decide) (x' := (⟨IntKind.i8.wrap (x1_1), (rd_T62 x0_1 x5_1).f1⟩ : S62)) (k62_mkM _ _ _ (⟨IntKind.i8.wrap (x1_1), (rd_T62 x0_1 x5_1).f1⟩ : S62) ) (fun _ hk => hk)
          have hx8_0 := hcc8 0 _ rfl
          (try simp only [show (k62).sz = 2 from rfl, Nat.mul_one, Nat.add_zero] at hx8_0)
          have hf8_0 := hfr8 0
          (try simp only [show (k62).sz = 2 from rfl, Nat.mul_one, Nat.add_zero] at hf8_0)
          clear hcl8 hcc8 hfr8 hM8
          go_wp2_with (first | ((with_reducible refine gate_store (t := 36) (p := 17) rfl ?_); refine store_event (t := 36) (p := 17) (v := ?vo_w9) (w1 := (wr.setCell ⟨go5, (x5_1 : Int).toNat * 2, none⟩ (.int .i8 (IntKind.i8.wrap (x1_1))))) ?hg ?ho ?hn ?hr ?_; (case ho => rfl); (case hg => rfl); (case hn => rfl); (case hr => first | (go_simp; done) | (go_simp; rfl)); intro w9 hw; have hg : wr.grownBy w9 (some go5) := (by rw [hw]; exact HP8.2); have hp_ : Kd.R k62 62 w9 w0.heap.size (fun k_ => (P0_ k_ ∨ w.heap.size ≤ k_)) (.slice (some ⟨go5, 0, none⟩) x0_1.length co7) y216 := (by rw [hw, Ny216.out]; exact HP8.1); clear HP8; have n0_ := Aside0.mk (hp_); have n1_ := Aside0.mk ((by rw [hw]; exact below_set (HB.out) GB5.out : Below w0.heap.size w0 w9)); have n2_ := Aside0.mk (Kept.of_grown (S := (fun k_ => P0_ k_)) hg (by repeat (first | (with_reducible first | exact HK.out | apply Kept.alloc | apply Kept.drewN | apply Kept.drew) | exact HK.out)) (fun k_ e_ => (HO_0.out.1 k_ e_))); clear HO_0; clear HB; clear HK; have HO_0 := n0_; have HB := n1_; have HK := n2_; clear n0_ n1_ n2_; clear hg hw hp_; have p6 : 0 ≤ (x5_1 : Int) := of_decide_eq_true (by first | (with_reducible assumption) | assumption); have q6 : (x5_1 : Int) < ((x0_1.length : Int) : Int) := of_decide_eq_true (by first | (with_reducible assumption) | assumption); obtain ⟨ce6, hcl6, hM6, hcc6, hfr6⟩ := Kd.R_elem HO_0.out z62 (x5_1 : Int) p6 q6; obtain rfl := k62_openM hM6; have hx6_0 : w9.cell? ⟨go5, (x5_1 : Int).toNat * 2, none⟩ = some (.int .i8 ((rd_T62 y216 x5_1).f0)) := hcc6 0 _ rfl; have hx6_1 : w9.cell? ⟨go5, (x5_1 : Int).toNat * 2 + 1, none⟩ = some (.int .i16 ((rd_T62 y216 x5_1).f1)) := hcc6 1 _ rfl; have hf6_0 : w9.frozen? ⟨go5, (x5_1 : Int).toNat * 2, none⟩ = false := hfr6 0; have hf6_1 : w9.frozen? ⟨go5, (x5_1 : Int).toNat * 2 + 1, none⟩ = false := hfr6 1; clear hcl6 hcc6 hfr6 hM6; replace p6 := eq_true p6; replace q6 := eq_true q6; have HX10 := Aside0.mk (show Kd.R k62 62 w9 w0.heap.size (fun k_ => (P0_ k_ ∨ w.heap.size ≤ k_)) (.slice (some ⟨go5, 0, none⟩) x0_1.length co7) y216 from (by (with_reducible repeat (first | apply Kd.R_alloc | apply Kd.R_drewN | apply Kd.R_drew)); exact HO_0.out)); obtain ⟨ce10, hcl10, hM10, hcc10, hfr10⟩ := Kd.R_elem HX10.out z62 (x5_1 : Int) (of_decide_eq_true (by first | (with_reducible assumption) | assumption)) (by have h_ : (x5_1 : Int) < ((x0_1.length : Int) : Int) := of_decide_eq_true (by first | (with_reducible assumption) | assumption); first | exact h_ | (have e_ := (Kd.R_reads' HO_0.out).1; omega) | simpa using h_); obtain rfl := k62_openM hM10; have HP10 := Kd.R_seg HX10.out (x5_1 : Int) (of_decide_eq_true (by first | (with_reducible assumption) | assumption)) (by have h_ : (x5_1 : Int) < ((x0_1.length : Int) : Int) := of_decide_eq_true (by first | (with_reducible assumption) | assumption); first | exact h_ | (have e_ := (Kd.R_reads' HO_0.out).1; omega) | simpa using h_) (seg := [.int .i16 (IntKind.i16.wrap (wrap64 (x1_1 + 1)))]) (j := 1) hcl10 hcc10 (show 2 ≤ 2 from by decide) (x' := (⟨(rd_T62 y216 x5_1).f0, IntKind.i16.wrap (wrap64 (x1_1 + 1))⟩ : S62)) (k62_mkM _ _ _ (⟨(rd_T62 y216 x5_1).f0, IntKind.i16.wrap (wrap64 (x1_1 + 1))⟩ : S62) ) (fun _ hk => hk); have hx10_1 := hcc10 1 _ rfl; (try simp only [show (k62).sz = 2 from rfl, Nat.mul_one, Nat.add_zero] at hx10_1); have hf10_1 := hfr10 1; (try simp only [show (k62).sz = 2 from rfl, Nat.mul_one, Nat.add_zero] at hf10_1); clear hcl10 hcc10 hfr10 hM10) | ((with_reducible refine gate_store (t := 60) (p := 25) rfl ?_); refine store_event (t := 60) (p := 25) (v := ?vo_w11) (w1 := (w9.setCell ⟨go5, (x5_1 : Int).toNat * 2 + 1, none⟩ (.int .i16 (IntKind.i16.wrap (wrap64 (x1_1 + 1)))))) ?hg ?ho ?hn ?hr ?_; (case ho => rfl); (case hg => rfl); (case hn => rfl); (case hr => first | (go_simp; done) | (go_simp; rfl)); intro w11 hw; have hg : w9.grownBy w11 (some go5) := (by rw [hw]; exact HP10.2); have hp_ : Kd.R k62 62 w11 w0.heap.size (fun k_ => (P0_ k_ ∨ w.heap.size ≤ k_)) (.slice (some ⟨go5, 0, none⟩) x0_1.length co7) y217 := (by rw [hw, Ny217.out]; exact HP10.1); clear HP10; have n0_ := Aside0.mk (hp_); have n1_ := Aside0.mk ((by rw [hw]; exact below_set (HB.out) GB5.out : Below w0.heap.size w0 w11)); have n2_ := Aside0.mk (Kept.of_grown (S := (fun k_ => P0_ k_)) hg (by repeat (first | (with_reducible first | exact HK.out | apply Kept.alloc | apply Kept.drewN | apply Kept.drew) | exact HK.out)) (fun k_ e_ => (HO_0.out.1 k_ e_))); clear HO_0; clear HB; clear HK; have HO_0 := n0_; have HB := n1_; have HK := n2_; clear n0_ n1_ n2_; clear hg hw hp_))
          go_roundg k1
          case measure => have := HK1.out; omega
          case rel => exact ⟨(y217), (wrap64 ((wrap64 (x1_1 + 1)) + 1)), (wrap64 (x5_1 + 1)), (by first | rfl | (simp; done) | (simp [*]; done)), (by first | rfl | (simp; done) | (simp [*]; done)), H', ⟨by have := HK1.out; omega⟩, ⟨by (with_reducible repeat (first | apply Kd.R_alloc | apply Kd.R_drewN | apply Kd.R_drew)); exact HO_0.out⟩, ⟨by repeat (first | (with_reducible first | exact HK.out | apply Kept.alloc | apply Kept.drewN | apply Kept.drew) | exact HK.out)⟩, ⟨by repeat (first | (with_reducible first | exact HB.out | apply below_alloc | apply pw_below_drewN | apply below_drew1) | exact HB.out)⟩⟩
        · rw [if_neg c4] at H
          exact absurd H (by simp)
      · rw [if_neg c3] at H
        have c3b0 : decide (x5_1 < (x0_1.length : Int)) = false := decide_eq_false c3
        clear c3
        simp only [Option.some.injEq, Prod.mk.injEq] at H
        obtain ⟨rfl, rfl⟩ := H
        obtain ⟨Ao12, co12, eo12⟩ := Kd.R_slice HO_0.out
        subst eo12
        go_wp2
        go_ret
        exact ⟨by first | rfl | (simp [errW_none, errW_some] <;> rfl) | (simp [*, errW_none, errW_some] <;> rfl), by (with_reducible repeat (first | apply Kd.R_alloc | apply Kd.R_drewN | apply Kd.R_drew)); exact HO_0.out, by repeat (first | (with_reducible first | exact HB.out | apply below_alloc | apply pw_below_drewN | apply below_drew1) | exact HB.out), by repeat (first | (with_reducible first | exact HK.out | apply Kept.alloc | apply Kept.drewN | apply Kept.drew) | exact HK.out)⟩

/-! ### laws_markHalf: function 28 -/
def laws_markHalf.f (k : Nat) (a0_0 : Bool) (l0_1 : List (S62)) (a0_2 : Vector Int 16) (a1 : Int) : Option (Int × (List (S62))) := (laws_markNotchS.f k l0_1 a1).bind fun bt219 => (some (bt219.1, bt219.2))
theorem laws_markHalf.mono : ∀ a0 a1 a2 a3 k, LeO (laws_markHalf.f k a0 a1 a2 a3) (laws_markHalf.f (k + 1) a0 a1 a2 a3) := by
  intro a0 a1 a2 a3 k
  unfold laws_markHalf.f
  repeat' first
      | (with_reducible exact laws_markNotchS.mono _ _ _)
      | (with_reducible exact LeO.refl _)
      | (with_reducible exact LeO.none _)
      | (with_reducible refine LeO.ite ?_ ?_)
      | (with_reducible refine LeO.bind ?_ (fun _ => ?_))
      | exact laws_markNotchS.mono _ _ _
      | exact LeO.none _
      | refine LeO.ite ?_ ?_
      | refine LeO.bind ?_ (fun _ => ?_)
set_option maxHeartbeats 8000000 in
set_option maxRecDepth 100000 in
theorem laws_markHalf.calls (k : Nat) (a0_0 : Bool) (P0_1_ : Nat → Prop) (u9000_ : Value) (l0_1 : List (S62)) (a0_2 : Vector Int 16) (a1 : Int) (r1 : Int) (r2 : List (S62)) (w0 w : World) (hB : Below w0.heap.size w0 w) (ho0_1 : Kd.R k62 62 w w0.heap.size P0_1_ u9000_ l0_1) (h : laws_markHalf.f k a0_0 l0_1 a0_2 a1 = some (r1, r2)) :
    Calls Tryd.prog 28 #[.agg (⟨(.bool a0_0) :: (u9000_) :: Arr.arL .i8 a0_2⟩ : Array Value), .int .i64 a1] w fun e w' => e = .returned (.int .i64 r1) ∧ Kd.R k62 62 w' w0.heap.size (fun k_ => (P0_1_ k_ ∨ w.heap.size ≤ k_)) u9000_ r2 ∧ Below w0.heap.size w0 w' ∧ Kept w w' (fun k_ => P0_1_ k_) := by
  have hu45 := Tryd.underlying45
  have HO0_1 := Aside0.mk (show Kd.R k62 62 w w0.heap.size (fun k_ => (P0_1_ k_ ∨ w.heap.size ≤ k_)) u9000_ l0_1 from Kd.R_mono ho0_1 (fun k_ hk => (.inl hk)))
  have HK := Aside0.mk (Kept.refl w (fun k_ => P0_1_ k_))
  have HW0 := Aside0.mk hB.size
  have HB := Aside0.mk hB
  clear hB
  have H : ((laws_markNotchS.f k l0_1 a1).bind fun bt219 => (some (bt219.1, bt219.2))) = some (r1, r2) := h
  clear h
  replace H := Option.bind_eq_some_iff.mp H
  obtain ⟨⟨t219, t220⟩, A30, H⟩ := H
  replace H : (some (t219, t220)) = some (r1, r2) := H
  have A3 := Aside0.mk A30
  clear A30
  simp only [Option.some.injEq, Prod.mk.injEq] at H
  obtain ⟨rfl, rfl⟩ := H
  obtain ⟨Ao4, co4, eo4⟩ := Kd.R_slice HO0_1.out
  subst eo4
  go_enter Tryd.func28, Tryd.ntmps28
  go_wp2_with (first | ((with_reducible refine gate_dst (N := 2) rfl ?_); refine box_event ?hg (N := 2) ?hd (cs := (⟨(.bool a0_0) :: (.slice Ao4 l0_1.length co4) :: Arr.arL .i8 a0_2⟩ : Array Value)) (t := 45) ?hr ?_; (case hd => rfl); (case hg => rfl); (case hr => first | (go_simp; done) | (go_simp; rfl)); intro gb218 hg w5 hbox hb; have n0_ := Aside0.mk (Kd.R_below (by (with_reducible repeat (first | apply Kd.R_alloc | apply Kd.R_drewN | apply Kd.R_drew)); exact HO0_1.out) hb); have n1_ := Aside0.mk (Kept.below (S := (fun k_ => P0_1_ k_)) (by repeat (first | (with_reducible first | exact HK.out | apply Kept.alloc | apply Kept.drewN | apply Kept.drew) | exact HK.out)) hb); have n2_ := Aside0.mk (below_step (by repeat (first | (with_reducible first | exact HB.out | apply below_alloc | apply pw_below_drewN | apply below_drew1) | exact HB.out)) hb); have n3_ := Aside0.mk (hbox); have n4_ := Aside0.mk ((by rw [hg]; exact (by first | exact HK.out.1 | exact (show Kept w _ (fun k_ => P0_1_ k_) from by repeat (first | (with_reducible first | exact HK.out | apply Kept.alloc | apply Kept.drewN | apply Kept.drew) | exact HK.out)).1) : w.heap.size ≤ gb218)); have n5_ := Aside0.mk ((by rw [hg]; exact (below_size (by repeat (first | (with_reducible first | exact HB.out | apply below_alloc | apply pw_below_drewN | apply below_drew1) | exact HB.out))) : w0.heap.size ≤ gb218)); clear HO0_1; clear HK; clear HB; have HO0_1 := n0_; have HK := n1_; have HB := n2_; have BK218 := n3_; have GW218 := n4_; have GE218 := n5_; clear n0_ n1_ n2_ n3_ n4_ n5_; clear hb hbox hg; have hcz6_0 : w5.cell? ⟨gb218, 0, none⟩ = some (.bool a0_0) := (blk_cell BK218.out 0).trans rfl; have hcz6_1 : w5.cell? ⟨gb218, 1, none⟩ = some (.slice Ao4 l0_1.length co4) := (blk_cell BK218.out 1).trans rfl; have hfz6_0 := blk_frozen BK218.out 0; have hfz6_1 := blk_frozen BK218.out 1) | ((with_reducible refine gate_callee (f := 77) rfl ?_); refine goesL_ (some 8) rfl rfl Tryd.func77 (by kernel_rfl) rfl #[.slice Ao4 l0_1.length co4, .int .i64 a1] rfl (by (try simp only [List.map_toArray, List.map_cons, List.map_nil]); first | done | (go_simp; done) | rfl | (simp only [List.length_drop, List.length_take]; rfl)) ?_; (with_reducible refine (laws_markNotchS.calls k (fun k_ => some k_ = (.slice Ao4 l0_1.length co4 : Value).ownBlock) (.slice Ao4 l0_1.length co4) l0_1 a1 t219 t220 w0 _ ?side1 ?side2 A3.out).mono ?_); (case side1 => repeat (first | (with_reducible first | exact HB.out | apply below_alloc | apply pw_below_drewN | apply below_drew1 | refine below_set ?_ GE218.out) | exact HB.out)); (case side2 => exact Kd.R_tight rfl HO0_1.out); rintro e w7 ⟨rfl, hy0, hb, hkp⟩; refine ⟨_, rfl, ?_⟩; have n0_ := Aside0.mk (Kd.R_reok rfl hy0 (fun k_ e_ => HO0_1.out.1 k_ e_)); have n1_ := Aside0.mk (blk_kept (by (with_reducible repeat (first | refine blk_drewN ?_ _ | refine blk_drew ?_ | refine blk_alloc ?_ _)); exact BK218.out) hkp (fun hs_ => (fun e_ => (Kd.R_ne HO0_1.out BK218.out (by decide)) e_) hs_)); have n2_ := Aside0.mk (Kept.then_ (S := (fun k_ => P0_1_ k_)) (by repeat (first | (with_reducible first | exact HK.out | apply Kept.alloc | apply Kept.drewN | apply Kept.drew | refine Kept.setCell ?_ (.inr GW218.out) _) | exact HK.out)) hkp (fun k_ hs_ => (fun e_ => (HO0_1.out.1 k_ e_.symm)) hs_)); have n3_ := Aside0.mk (hb); clear HO0_1; clear BK218; clear HK; clear HB; have HO0_1 := n0_; have BK218 := n1_; have HK := n2_; have HB := n3_; clear n0_ n1_ n2_ n3_; (try clear hb); (try clear hkp); (try clear hy0)))
  go_ret
  exact ⟨by first | rfl | (simp [errW_none, errW_some] <;> rfl) | (simp [*, errW_none, errW_some] <;> rfl), by (with_reducible repeat (first | apply Kd.R_alloc | apply Kd.R_drewN | apply Kd.R_drew)); exact HO0_1.out, by repeat (first | (with_reducible first | exact HB.out | apply below_alloc | apply pw_below_drewN | apply below_drew1 | refine below_set ?_ GE218.out) | exact HB.out), by repeat (first | (with_reducible first | exact HK.out | apply Kept.alloc | apply Kept.drewN | apply Kept.drew | refine Kept.setCell ?_ (.inr GW218.out) _) | exact HK.out)⟩

/-! ### laws_heldNotchS: function 78 -/
def laws_heldNotchS.l0 : Nat → List (S62) → Int → Int → Option (Int)
  | 0, _, _, _ => none
  | k + 1, x0, x1, x5 => if x5 < (x0.length : Int) then (if 0 ≤ x5 then (if ((rd_T62 x0 x5).f0) = (IntKind.i8.wrap (x1)) then (if ((rd_T62 x0 x5).f1) = (IntKind.i16.wrap (wrap64 (x1 + 1))) then (laws_heldNotchS.l0 k x0 (wrap64 ((wrap64 (x1 + 1)) + 1)) (wrap64 (x5 + 1))) else (some (-1))) else (some (-1))) else (none)) else (some x1)
def laws_heldNotchS.f (k : Nat) (l0 : List (S62)) (a1 : Int) : Option (Int) := laws_heldNotchS.l0 k l0 a1 0
theorem laws_heldNotchS.mono_l : ∀ k, (∀ y0 y1 y2, LeO (laws_heldNotchS.l0 k y0 y1 y2) (laws_heldNotchS.l0 (k + 1) y0 y1 y2))
  | 0 => fun _ _ _ r h => by simp [laws_heldNotchS.l0] at h
  | k + 1 => by
    have ih0 := laws_heldNotchS.mono_l k
    · intro y0 y1 y2
      unfold laws_heldNotchS.l0
      repeat' first
      | (with_reducible exact ih0 _ _ _)
      | (with_reducible exact LeO.refl _)
      | (with_reducible exact LeO.none _)
      | (with_reducible refine LeO.ite ?_ ?_)
      | (with_reducible refine LeO.bind ?_ (fun _ => ?_))
      | exact ih0 _ _ _
      | exact LeO.none _
      | refine LeO.ite ?_ ?_
      | refine LeO.bind ?_ (fun _ => ?_)
theorem laws_heldNotchS.mono : ∀ a0 a1 k, LeO (laws_heldNotchS.f k a0 a1) (laws_heldNotchS.f (k + 1) a0 a1) := by
  intro a0 a1 k
  have ih0 := laws_heldNotchS.mono_l k
  unfold laws_heldNotchS.f
  repeat' first
      | (with_reducible exact ih0 _ _ _)
      | (with_reducible exact LeO.refl _)
      | (with_reducible exact LeO.none _)
      | (with_reducible refine LeO.ite ?_ ?_)
      | (with_reducible refine LeO.bind ?_ (fun _ => ?_))
      | exact ih0 _ _ _
      | exact LeO.none _
      | refine LeO.ite ?_ ?_
      | refine LeO.bind ?_ (fun _ => ?_)
set_option maxHeartbeats 8000000 in
set_option maxRecDepth 100000 in
theorem laws_heldNotchS.calls (k : Nat) (A0 : Option Addr) (c0 : Nat) (l0 : List (S62)) (a1 : Int) (r : Int) (w : World) (hr0 : Kd.C k62 w A0 l0.length l0) (hc0 : l0.length ≤ c0) (h : laws_heldNotchS.f k l0 a1 = some r) :
    Calls Tryd.prog 78 #[.slice A0 l0.length c0, .int .i64 a1] w fun e w' => e = .returned (.int .i64 r) ∧ Drawn0 w w' := by
  have HR0 := Aside0.mk hr0
  have HC0 := Aside0.mk hc0
  clear hr0 hc0
  have H : (laws_heldNotchS.l0 k l0 a1 0) = some r := h
  clear h
  have H' := Aside0.mk H
  clear H
  go_enter Tryd.func78, Tryd.ntmps78
  go_wp2
  go_loopg [1, 5] k (fun kq v1 v5 w' => ∃ (x1_1 : Int) (x5_1 : Int), v1 = .int .i64 x1_1 ∧ v5 = .int .i64 x5_1 ∧ Aside0 (laws_heldNotchS.l0 kq l0 x1_1 x5_1 = some r) ∧ Aside0 (kq ≤ k) ∧ Drawn0 w w')
  case atStart => exact ⟨(a1), (0), (by first | rfl | (simp; done) | (simp [*]; done)), (by first | rfl | (simp; done) | (simp [*]; done)), H', ⟨Nat.le_refl _⟩, by repeat (first | exact Drawn0.refl _ | apply Drawn0.step)⟩
  case round =>
    clear H'
    try clear p2
    obtain ⟨x1_1, x5_1, rfl, rfl, HA, HK1, ⟨m1, rfl⟩⟩ := hrel
    cases gk with
    | zero => exact absurd HA.out (by simp [laws_heldNotchS.l0])
    | succ k1 =>
      have H := HA.out
      clear HA
      simp only [laws_heldNotchS.l0] at H
      by_cases c3 : x5_1 < (l0.length : Int)
      · rw [if_pos c3] at H
        have c3b0 : decide (x5_1 < (l0.length : Int)) = true := decide_eq_true c3
        clear c3
        by_cases c4 : 0 ≤ x5_1
        · rw [if_pos c4] at H
          have c4b0 : decide (0 ≤ x5_1) = true := decide_eq_true c4
          clear c4
          by_cases c5 : ((rd_T62 l0 x5_1).f0) = (IntKind.i8.wrap (x1_1))
          · rw [if_pos c5] at H
            have c5b0 : (((rd_T62 l0 x5_1).f0) == (IntKind.i8.wrap (x1_1))) = true := beq_iff_eq.mpr c5
            have c5b1 : (((rd_T62 l0 x5_1).f0) != (IntKind.i8.wrap (x1_1))) = false := bne_eq_false_iff_eq.mpr c5
            clear c5
            by_cases c6 : ((rd_T62 l0 x5_1).f1) = (IntKind.i16.wrap (wrap64 (x1_1 + 1)))
            · rw [if_pos c6] at H
              have c6b0 : (((rd_T62 l0 x5_1).f1) == (IntKind.i16.wrap (wrap64 (x1_1 + 1)))) = true := beq_iff_eq.mpr c6
              have c6b1 : (((rd_T62 l0 x5_1).f1) != (IntKind.i16.wrap (wrap64 (x1_1 + 1)))) = false := bne_eq_false_iff_eq.mpr c6
              clear c6
              have H' := Aside0.mk H
              clear H
              have p221 : 0 ≤ (x5_1 : Int) := of_decide_eq_true (by first | (with_reducible assumption) | assumption)
              have q221 : x5_1 < (l0.length : Int) := of_decide_eq_true (by first | (with_reducible assumption) | assumption)
              obtain ⟨ad221, e221, hx221_0, hx221_1⟩ := at_T62 HR0.out x5_1 p221 q221
              cases e221
              replace p221 := eq_true p221
              replace q221 := eq_true q221
              have p222 : 0 ≤ (x5_1 : Int) := of_decide_eq_true (by first | (with_reducible assumption) | assumption)
              have q222 : x5_1 < (l0.length : Int) := of_decide_eq_true (by first | (with_reducible assumption) | assumption)
              obtain ⟨ad222, e222, hx222_0, hx222_1⟩ := at_T62 HR0.out x5_1 p222 q222
              obtain rfl : ad221 = ad222 := (by injection e222)
              replace p222 := eq_true p222
              replace q222 := eq_true q222
              go_wp2
              go_roundg k1
              case measure => have := HK1.out; omega
              case rel => exact ⟨(wrap64 ((wrap64 (x1_1 + 1)) + 1)), (wrap64 (x5_1 + 1)), (by first | rfl | (simp; done) | (simp [*]; done)), (by first | rfl | (simp; done) | (simp [*]; done)), H', ⟨by have := HK1.out; omega⟩, by repeat (first | exact Drawn0.refl _ | apply Drawn0.step)⟩
            · rw [if_neg c6] at H
              have c6b0 : (((rd_T62 l0 x5_1).f1) == (IntKind.i16.wrap (wrap64 (x1_1 + 1)))) = false := beq_eq_false_iff_ne.mpr c6
              have c6b1 : (((rd_T62 l0 x5_1).f1) != (IntKind.i16.wrap (wrap64 (x1_1 + 1)))) = true := bne_iff_ne.mpr c6
              obtain rfl := Option.some.inj H
              have p221 : 0 ≤ (x5_1 : Int) := of_decide_eq_true (by first | (with_reducible assumption) | assumption)
              have q221 : x5_1 < (l0.length : Int) := of_decide_eq_true (by first | (with_reducible assumption) | assumption)
              obtain ⟨ad221, e221, hx221_0, hx221_1⟩ := at_T62 HR0.out x5_1 p221 q221
              cases e221
              replace p221 := eq_true p221
              replace q221 := eq_true q221
              have p222 : 0 ≤ (x5_1 : Int) := of_decide_eq_true (by first | (with_reducible assumption) | assumption)
              have q222 : x5_1 < (l0.length : Int) := of_decide_eq_true (by first | (with_reducible assumption) | assumption)
              obtain ⟨ad222, e222, hx222_0, hx222_1⟩ := at_T62 HR0.out x5_1 p222 q222
              obtain rfl : ad221 = ad222 := (by injection e222)
              replace p222 := eq_true p222
              replace q222 := eq_true q222
              go_wp2
              go_ret
              exact ⟨by first | rfl | (simp; done) | (simp [*]; done), by repeat (first | exact Drawn0.refl _ | apply Drawn0.step)⟩
          · rw [if_neg c5] at H
            have c5b0 : (((rd_T62 l0 x5_1).f0) == (IntKind.i8.wrap (x1_1))) = false := beq_eq_false_iff_ne.mpr c5
            have c5b1 : (((rd_T62 l0 x5_1).f0) != (IntKind.i8.wrap (x1_1))) = true := bne_iff_ne.mpr c5
            obtain rfl := Option.some.inj H
            have p221 : 0 ≤ (x5_1 : Int) := of_decide_eq_true (by first | (with_reducible assumption) | assumption)
            have q221 : x5_1 < (l0.length : Int) := of_decide_eq_true (by first | (with_reducible assumption) | assumption)
            obtain ⟨ad221, e221, hx221_0, hx221_1⟩ := at_T62 HR0.out x5_1 p221 q221
            cases e221
            replace p221 := eq_true p221
            replace q221 := eq_true q221
            go_wp2
            go_ret
            exact ⟨by first | rfl | (simp; done) | (simp [*]; done), by repeat (first | exact Drawn0.refl _ | apply Drawn0.step)⟩
        · rw [if_neg c4] at H
          exact absurd H (by simp)
      · rw [if_neg c3] at H
        have c3b0 : decide (x5_1 < (l0.length : Int)) = false := decide_eq_false c3
        clear c3
        obtain rfl := Option.some.inj H
        go_wp2
        go_ret
        exact ⟨by first | rfl | (simp; done) | (simp [*]; done), by repeat (first | exact Drawn0.refl _ | apply Drawn0.step)⟩

/-! ### laws_heldHalf: function 29 -/
def laws_heldHalf.f (k : Nat) (a0_0 : Bool) (l0_1 : List (S62)) (a0_2 : Vector Int 16) (a1 : Int) : Option (Int) := (laws_heldNotchS.f k l0_1 a1).bind fun t224 => (if t224 < 0 then (some (-1)) else (some t224))
theorem laws_heldHalf.mono : ∀ a0 a1 a2 a3 k, LeO (laws_heldHalf.f k a0 a1 a2 a3) (laws_heldHalf.f (k + 1) a0 a1 a2 a3) := by
  intro a0 a1 a2 a3 k
  unfold laws_heldHalf.f
  repeat' first
      | (with_reducible exact laws_heldNotchS.mono _ _ _)
      | (with_reducible exact LeO.refl _)
      | (with_reducible exact LeO.none _)
      | (with_reducible refine LeO.ite ?_ ?_)
      | (with_reducible refine LeO.bind ?_ (fun _ => ?_))
      | exact laws_heldNotchS.mono _ _ _
      | exact LeO.none _
      | refine LeO.ite ?_ ?_
      | refine LeO.bind ?_ (fun _ => ?_)
set_option maxHeartbeats 8000000 in
set_option maxRecDepth 100000 in
theorem laws_heldHalf.calls (k : Nat) (a0_0 : Bool) (A0_1 : Option Addr) (c0_1 : Nat) (l0_1 : List (S62)) (a0_2 : Vector Int 16) (a1 : Int) (r : Int) (w : World) (hr0_1 : Kd.C k62 w A0_1 l0_1.length l0_1) (hc0_1 : l0_1.length ≤ c0_1) (h : laws_heldHalf.f k a0_0 l0_1 a0_2 a1 = some r) :
    Calls Tryd.prog 29 #[.agg (⟨(.bool a0_0) :: (.slice A0_1 l0_1.length c0_1) :: Arr.arL .i8 a0_2⟩ : Array Value), .int .i64 a1] w fun e w' => e = .returned (.int .i64 r) ∧ Below w.heap.size w w' := by
  have hu45 := Tryd.underlying45
  have HR0_1 := Aside0.mk hr0_1
  have HC0_1 := Aside0.mk hc0_1
  clear hr0_1 hc0_1
  have HB := Aside0.mk (Below.refl w.heap.size w)
  have H : ((laws_heldNotchS.f k l0_1 a1).bind fun t224 => (if t224 < 0 then (some (-1)) else (some t224))) = some r := h
  clear h
  replace H := Option.bind_eq_some_iff.mp H
  obtain ⟨t224, A30, H⟩ := H
  replace H : (if t224 < 0 then (some (-1)) else (some t224)) = some r := H
  have A3 := Aside0.mk A30
  clear A30
  by_cases c4 : t224 < 0
  · rw [if_pos c4] at H
    have c4b0 : decide (t224 < 0) = true := decide_eq_true c4
    clear c4
    obtain rfl := Option.some.inj H
    go_enter Tryd.func29, Tryd.ntmps29
    go_wp2_with (first | ((with_reducible refine gate_dst (N := 2) rfl ?_); refine box_event ?hg (N := 2) ?hd (cs := (⟨(.bool a0_0) :: (.slice A0_1 l0_1.length c0_1) :: Arr.arL .i8 a0_2⟩ : Array Value)) (t := 45) ?hr ?_; (case hd => rfl); (case hg => rfl); (case hr => first | (go_simp; done) | (go_simp; rfl)); intro gb223 hg w5 hbox hb; have n0_ := Aside0.mk (below_step (by repeat (first | (with_reducible first | exact HB.out | apply below_alloc | apply pw_below_drewN | apply below_drew1) | exact HB.out)) hb); have n1_ := Aside0.mk (hbox); have n2_ := Aside0.mk ((by rw [hg]; exact (below_size (by repeat (first | (with_reducible first | exact HB.out | apply below_alloc | apply pw_below_drewN | apply below_drew1) | exact HB.out))) : w.heap.size ≤ gb223)); have n3_ := Aside0.mk ((by rw [hg]; exact (below_size (by repeat (first | (with_reducible first | exact HB.out | apply below_alloc | apply pw_below_drewN | apply below_drew1) | exact HB.out))) : w.heap.size ≤ gb223)); clear HB; have HB := n0_; have BK223 := n1_; have GW223 := n2_; have GE223 := n3_; clear n0_ n1_ n2_ n3_; clear hb hbox hg; have hcz6_0 : w5.cell? ⟨gb223, 0, none⟩ = some (.bool a0_0) := (blk_cell BK223.out 0).trans rfl; have hcz6_1 : w5.cell? ⟨gb223, 1, none⟩ = some (.slice A0_1 l0_1.length c0_1) := (blk_cell BK223.out 1).trans rfl; have hfz6_0 := blk_frozen BK223.out 0; have hfz6_1 := blk_frozen BK223.out 1) | ((with_reducible refine gate_callee (f := 78) rfl ?_); refine goesL_ (some 8) rfl rfl Tryd.func78 (by kernel_rfl) rfl #[.slice A0_1 l0_1.length c0_1, .int .i64 a1] rfl (by (try simp only [List.map_toArray, List.map_cons, List.map_nil]); first | done | (go_simp; done) | rfl | (simp only [List.length_drop, List.length_take]; rfl)) ?_; (with_reducible refine (laws_heldNotchS.calls k _ _ l0_1 a1 t224 _ ?side1 ?side2 A3.out).mono ?_); (case side1 => repeat (first | exact (Kd.C_below HR0_1.out HB.out) | (with_reducible refine Kd.C_alloc ?_ _) | (with_reducible refine Kd.C_drewN ?_ _) | (with_reducible refine Kd.C_drew ?_))); (case side2 => exact HC0_1.out); rintro e w' ⟨rfl, ⟨nd, rfl⟩⟩; refine ⟨_, rfl, ?_⟩))
    go_ret
    exact ⟨by first | rfl | (simp [errW_none, errW_some] <;> rfl) | (simp [*, errW_none, errW_some] <;> rfl), by repeat (first | (with_reducible first | exact HB.out | apply below_alloc | apply pw_below_drewN | apply below_drew1 | refine below_set ?_ GE223.out) | exact HB.out)⟩
  · rw [if_neg c4] at H
    have c4b0 : decide (t224 < 0) = false := decide_eq_false c4
    clear c4
    obtain rfl := Option.some.inj H
    go_enter Tryd.func29, Tryd.ntmps29
    go_wp2_with (first | ((with_reducible refine gate_dst (N := 2) rfl ?_); refine box_event ?hg (N := 2) ?hd (cs := (⟨(.bool a0_0) :: (.slice A0_1 l0_1.length c0_1) :: Arr.arL .i8 a0_2⟩ : Array Value)) (t := 45) ?hr ?_; (case hd => rfl); (case hg => rfl); (case hr => first | (go_simp; done) | (go_simp; rfl)); intro gb223 hg w7 hbox hb; have n0_ := Aside0.mk (below_step (by repeat (first | (with_reducible first | exact HB.out | apply below_alloc | apply pw_below_drewN | apply below_drew1) | exact HB.out)) hb); have n1_ := Aside0.mk (hbox); have n2_ := Aside0.mk ((by rw [hg]; exact (below_size (by repeat (first | (with_reducible first | exact HB.out | apply below_alloc | apply pw_below_drewN | apply below_drew1) | exact HB.out))) : w.heap.size ≤ gb223)); have n3_ := Aside0.mk ((by rw [hg]; exact (below_size (by repeat (first | (with_reducible first | exact HB.out | apply below_alloc | apply pw_below_drewN | apply below_drew1) | exact HB.out))) : w.heap.size ≤ gb223)); clear HB; have HB := n0_; have BK223 := n1_; have GW223 := n2_; have GE223 := n3_; clear n0_ n1_ n2_ n3_; clear hb hbox hg; have hcz8_0 : w7.cell? ⟨gb223, 0, none⟩ = some (.bool a0_0) := (blk_cell BK223.out 0).trans rfl; have hcz8_1 : w7.cell? ⟨gb223, 1, none⟩ = some (.slice A0_1 l0_1.length c0_1) := (blk_cell BK223.out 1).trans rfl; have hfz8_0 := blk_frozen BK223.out 0; have hfz8_1 := blk_frozen BK223.out 1) | ((with_reducible refine gate_callee (f := 78) rfl ?_); refine goesL_ (some 8) rfl rfl Tryd.func78 (by kernel_rfl) rfl #[.slice A0_1 l0_1.length c0_1, .int .i64 a1] rfl (by (try simp only [List.map_toArray, List.map_cons, List.map_nil]); first | done | (go_simp; done) | rfl | (simp only [List.length_drop, List.length_take]; rfl)) ?_; (with_reducible refine (laws_heldNotchS.calls k _ _ l0_1 a1 t224 _ ?side1 ?side2 A3.out).mono ?_); (case side1 => repeat (first | exact (Kd.C_below HR0_1.out HB.out) | (with_reducible refine Kd.C_alloc ?_ _) | (with_reducible refine Kd.C_drewN ?_ _) | (with_reducible refine Kd.C_drew ?_))); (case side2 => exact HC0_1.out); rintro e w' ⟨rfl, ⟨nd, rfl⟩⟩; refine ⟨_, rfl, ?_⟩))
    go_ret
    exact ⟨by first | rfl | (simp [errW_none, errW_some] <;> rfl) | (simp [*, errW_none, errW_some] <;> rfl), by repeat (first | (with_reducible first | exact HB.out | apply below_alloc | apply pw_below_drewN | apply below_drew1 | refine below_set ?_ GE223.out) | exact HB.out)⟩

/-! ### laws_FnExactReadHalf: function 7 -/
mutual
def laws_FnExactReadHalf.j0 : Nat → ByteArray → Int → Bool → Bool → List (S62) → Vector Int 16 → Bool → List (S62) → Vector Int 16 → Option (Bool)
  | 0, _, _, _, _, _, _, _, _, _ => none
  | k + 1, x0, x4, x32, x232000, x232001, x232002, x239000, x239001, x239002 => if x32 = true then (some false) else ((laws_markHalf.f k x239000 x239001 x239002 1).bind fun bt240 => ((laws_heldHalf.f k x239000 bt240.2 x239002 1).bind fun t242 => (if t242 < 0 then (some false) else (if t242 = bt240.1 then ((impl_ReadHalf.f k x0).bind fun bt243 => ((laws_eqHalf.f k bt243.1 bt243.2.1 bt243.2.2.1 x232000 x232001 x232002).bind fun t250 => (if t250 = true then (laws_FnExactReadHalf.j1 k bt240.1 (bt243.2.2.2 != x4) x239000 bt240.2 x239002) else (laws_FnExactReadHalf.j1 k bt240.1 true x239000 bt240.2 x239002)))) else (some false)))))
def laws_FnExactReadHalf.j1 : Nat → Int → Bool → Bool → List (S62) → Vector Int 16 → Option (Bool)
  | 0, _, _, _, _, _ => none
  | k + 1, x7, x57, x239000, x239001, x239002 => if x57 = true then (some false) else ((laws_heldHalf.f k x239000 x239001 x239002 1).bind fun t251 => (if t251 < 0 then (some false) else (if t251 = x7 then (some true) else (some false))))
end
def laws_FnExactReadHalf.f (k : Nat) (a0 : ByteArray) : Option (Bool) := if (a0.size : Int) > 1048576 then (some true) else ((spec_ReadHalf.f k a0).bind fun bt225 => ((impl_ReadHalf.f k a0).bind fun bt232 => ((laws_eqHalf.f k bt232.1 bt232.2.1 bt232.2.2.1 bt225.1 bt225.2.1 bt225.2.2.1).bind fun t239 => (if t239 = true then (laws_FnExactReadHalf.j0 k a0 bt225.2.2.2 (bt232.2.2.2 != bt225.2.2.2) bt225.1 bt225.2.1 bt225.2.2.1 bt232.1 bt232.2.1 bt232.2.2.1) else (laws_FnExactReadHalf.j0 k a0 bt225.2.2.2 true bt225.1 bt225.2.1 bt225.2.2.1 bt232.1 bt232.2.1 bt232.2.2.1)))))
theorem laws_FnExactReadHalf.mono_l : ∀ k, (∀ y0 y1 y2 y3 y4 y5 y6 y7 y8, LeO (laws_FnExactReadHalf.j0 k y0 y1 y2 y3 y4 y5 y6 y7 y8) (laws_FnExactReadHalf.j0 (k + 1) y0 y1 y2 y3 y4 y5 y6 y7 y8)) ∧ (∀ y0 y1 y2 y3 y4, LeO (laws_FnExactReadHalf.j1 k y0 y1 y2 y3 y4) (laws_FnExactReadHalf.j1 (k + 1) y0 y1 y2 y3 y4))
  | 0 => ⟨fun _ _ _ _ _ _ _ _ _ r h => by simp [laws_FnExactReadHalf.j0] at h, fun _ _ _ _ _ r h => by simp [laws_FnExactReadHalf.j1] at h⟩
  | k + 1 => by
    obtain ⟨ih0, ih1⟩ := laws_FnExactReadHalf.mono_l k
    refine ⟨?_, ?_⟩
    · intro y0 y1 y2 y3 y4 y5 y6 y7 y8
      unfold laws_FnExactReadHalf.j0
      repeat' first
      | (with_reducible exact ih0 _ _ _ _ _ _ _ _ _)
      | (with_reducible exact ih1 _ _ _ _ _)
      | (with_reducible exact impl_ReadHalf.mono _ _)
      | (with_reducible exact laws_eqHalf.mono _ _ _ _ _ _ _)
      | (with_reducible exact laws_heldHalf.mono _ _ _ _ _)
      | (with_reducible exact laws_markHalf.mono _ _ _ _ _)
      | (with_reducible exact spec_ReadHalf.mono _ _)
      | (with_reducible exact LeO.refl _)
      | (with_reducible exact LeO.none _)
      | (with_reducible refine LeO.ite ?_ ?_)
      | (with_reducible refine LeO.bind ?_ (fun _ => ?_))
      | exact ih0 _ _ _ _ _ _ _ _ _
      | exact ih1 _ _ _ _ _
      | exact impl_ReadHalf.mono _ _
      | exact laws_eqHalf.mono _ _ _ _ _ _ _
      | exact laws_heldHalf.mono _ _ _ _ _
      | exact laws_markHalf.mono _ _ _ _ _
      | exact spec_ReadHalf.mono _ _
      | exact LeO.none _
      | refine LeO.ite ?_ ?_
      | refine LeO.bind ?_ (fun _ => ?_)
    · intro y0 y1 y2 y3 y4
      unfold laws_FnExactReadHalf.j1
      repeat' first
      | (with_reducible exact ih0 _ _ _ _ _ _ _ _ _)
      | (with_reducible exact ih1 _ _ _ _ _)
      | (with_reducible exact impl_ReadHalf.mono _ _)
      | (with_reducible exact laws_eqHalf.mono _ _ _ _ _ _ _)
      | (with_reducible exact laws_heldHalf.mono _ _ _ _ _)
      | (with_reducible exact laws_markHalf.mono _ _ _ _ _)
      | (with_reducible exact spec_ReadHalf.mono _ _)
      | (with_reducible exact LeO.refl _)
      | (with_reducible exact LeO.none _)
      | (with_reducible refine LeO.ite ?_ ?_)
      | (with_reducible refine LeO.bind ?_ (fun _ => ?_))
      | exact ih0 _ _ _ _ _ _ _ _ _
      | exact ih1 _ _ _ _ _
      | exact impl_ReadHalf.mono _ _
      | exact laws_eqHalf.mono _ _ _ _ _ _ _
      | exact laws_heldHalf.mono _ _ _ _ _
      | exact laws_markHalf.mono _ _ _ _ _
      | exact spec_ReadHalf.mono _ _
      | exact LeO.none _
      | refine LeO.ite ?_ ?_
      | refine LeO.bind ?_ (fun _ => ?_)
theorem laws_FnExactReadHalf.mono : ∀ a0 k, LeO (laws_FnExactReadHalf.f k a0) (laws_FnExactReadHalf.f (k + 1) a0) := by
  intro a0 k
  obtain ⟨ih0, ih1⟩ := laws_FnExactReadHalf.mono_l k
  unfold laws_FnExactReadHalf.f
  repeat' first
      | (with_reducible exact ih0 _ _ _ _ _ _ _ _ _)
      | (with_reducible exact ih1 _ _ _ _ _)
      | (with_reducible exact impl_ReadHalf.mono _ _)
      | (with_reducible exact laws_eqHalf.mono _ _ _ _ _ _ _)
      | (with_reducible exact laws_heldHalf.mono _ _ _ _ _)
      | (with_reducible exact laws_markHalf.mono _ _ _ _ _)
      | (with_reducible exact spec_ReadHalf.mono _ _)
      | (with_reducible exact LeO.refl _)
      | (with_reducible exact LeO.none _)
      | (with_reducible refine LeO.ite ?_ ?_)
      | (with_reducible refine LeO.bind ?_ (fun _ => ?_))
      | exact ih0 _ _ _ _ _ _ _ _ _
      | exact ih1 _ _ _ _ _
      | exact impl_ReadHalf.mono _ _
      | exact laws_eqHalf.mono _ _ _ _ _ _ _
      | exact laws_heldHalf.mono _ _ _ _ _
      | exact laws_markHalf.mono _ _ _ _ _
      | exact spec_ReadHalf.mono _ _
      | exact LeO.none _
      | refine LeO.ite ?_ ?_
      | refine LeO.bind ?_ (fun _ => ?_)
set_option maxHeartbeats 8000000 in
set_option maxRecDepth 100000 in
theorem laws_FnExactReadHalf.calls (k : Nat) (a0 : ByteArray) (r : Bool) (w : World) (hT : Tt.TT w) (h : laws_FnExactReadHalf.f k a0 = some r) (ht : r = true) :
    Calls Tryd.prog 7 #[.string a0] w fun e w' => e = .returned (.bool r) ∧ Below w.heap.size w w' := by
  have hu45 := Tryd.underlying45
  have HB := Aside0.mk (Below.refl w.heap.size w)
  have H : (if (a0.size : Int) > 1048576 then (some true) else ((spec_ReadHalf.f k a0).bind fun bt225 => ((impl_ReadHalf.f k a0).bind fun bt232 => ((laws_eqHalf.f k bt232.1 bt232.2.1 bt232.2.2.1 bt225.1 bt225.2.1 bt225.2.2.1).bind fun t239 => (if t239 = true then (laws_FnExactReadHalf.j0 k a0 bt225.2.2.2 (bt232.2.2.2 != bt225.2.2.2) bt225.1 bt225.2.1 bt225.2.2.1 bt232.1 bt232.2.1 bt232.2.2.1) else (laws_FnExactReadHalf.j0 k a0 bt225.2.2.2 true bt225.1 bt225.2.1 bt225.2.2.1 bt232.1 bt232.2.1 bt232.2.2.1)))))) = some r := h
  clear h
  by_cases c2 : (a0.size : Int) > 1048576
  · rw [if_pos c2] at H
    have c2b0 : decide (1048576 < (a0.size : Int)) = true := decide_eq_true c2
    have c2b1 : decide (1048576 < a0.size) = true := decide_eq_true (by omega)
    clear c2
    obtain rfl := Option.some.inj H
    go_enter Tryd.func7, Tryd.ntmps7
    go_wp2
    go_ret
    exact ⟨by first | rfl | (simp [errW_none, errW_some] <;> rfl) | (simp [*, errW_none, errW_some] <;> rfl), by repeat (first | (with_reducible first | exact HB.out | apply below_alloc | apply pw_below_drewN | apply below_drew1) | exact HB.out)⟩
  · rw [if_neg c2] at H
    have c2b0 : decide (1048576 < (a0.size : Int)) = false := decide_eq_false c2
    have c2b1 : decide (1048576 < a0.size) = false := decide_eq_false (by omega)
    clear c2
    replace H := Option.bind_eq_some_iff.mp H
    obtain ⟨⟨t225, t226, t229, t230⟩, A30, H⟩ := H
    replace H : ((impl_ReadHalf.f k a0).bind fun bt232 => ((laws_eqHalf.f k bt232.1 bt232.2.1 bt232.2.2.1 t225 t226 t229).bind fun t239 => (if t239 = true then (laws_FnExactReadHalf.j0 k a0 t230 (bt232.2.2.2 != t230) t225 t226 t229 bt232.1 bt232.2.1 bt232.2.2.1) else (laws_FnExactReadHalf.j0 k a0 t230 true t225 t226 t229 bt232.1 bt232.2.1 bt232.2.2.1)))) = some r := H
    have A3 := Aside0.mk A30
    clear A30
    replace H := Option.bind_eq_some_iff.mp H
    obtain ⟨⟨t232, t233, t236, t237⟩, A50, H⟩ := H
    replace H : ((laws_eqHalf.f k t232 t233 t236 t225 t226 t229).bind fun t239 => (if t239 = true then (laws_FnExactReadHalf.j0 k a0 t230 (t237 != t230) t225 t226 t229 t232 t233 t236) else (laws_FnExactReadHalf.j0 k a0 t230 true t225 t226 t229 t232 t233 t236))) = some r := H
    have A5 := Aside0.mk A50
    clear A50
    have HC7 := Aside0.mk H
    clear H
    go_enter Tryd.func7, Tryd.ntmps7
    go_upto_region 5 with (first | ((with_reducible refine gate_callee (f := 26) rfl ?_); refine goesL_ (some 16) rfl rfl Tryd.func26 (by kernel_rfl) rfl #[.string a0] rfl (by (try simp only [List.map_toArray, List.map_cons, List.map_nil]); first | done | (go_simp; done) | rfl | (simp only [List.length_drop, List.length_take]; rfl)) ?_; (with_reducible refine (spec_ReadHalf.calls k a0 t225 t226 t229 t230 _ A3.out).mono ?_); rintro e w8 ⟨v227, rfl, ho0, hb⟩; refine ⟨_, rfl, ?_⟩; have n0_ := Aside0.mk (Kd.R_lower ho0 (below_size (by repeat (first | (with_reducible first | exact HB.out | apply below_alloc | apply pw_below_drewN | apply below_drew1) | exact HB.out)))); have n1_ := Aside0.mk (below_step (by repeat (first | (with_reducible first | exact HB.out | apply below_alloc | apply pw_below_drewN | apply below_drew1) | exact HB.out)) hb); clear HB; have HO228 := n0_; have HB := n1_; clear n0_ n1_; (try clear hb); (try clear hb2); (try clear hk); (try clear hi); (try clear ho0)) | ((with_reducible refine gate_dst (N := 3) rfl ?_); refine box_event ?hg (N := 3) ?hd (cs := (⟨(.bool false) :: (.slice none 0 0) :: Arr.arL .i8 (Vector.replicate 16 0 : Vector Int 16)⟩ : Array Value)) (t := 45) ?hr ?_; (case hd => rfl); (case hg => rfl); (case hr => first | (go_simp; done) | (go_simp; rfl)); intro gb231 hg w9 hbox hb; have n0_ := Aside0.mk (Kd.R_below (by (with_reducible repeat (first | apply Kd.R_alloc | apply Kd.R_drewN | apply Kd.R_drew)); exact HO228.out) hb); have n1_ := Aside0.mk (below_step (by repeat (first | (with_reducible first | exact HB.out | apply below_alloc | apply pw_below_drewN | apply below_drew1) | exact HB.out)) hb); have n2_ := Aside0.mk (hbox); have n3_ := Aside0.mk ((by rw [hg]; exact (below_size (by repeat (first | (with_reducible first | exact HB.out | apply below_alloc | apply pw_below_drewN | apply below_drew1) | exact HB.out))) : w.heap.size ≤ gb231)); have n4_ := Aside0.mk ((by rw [hg]; exact (below_size (by repeat (first | (with_reducible first | exact HB.out | apply below_alloc | apply pw_below_drewN | apply below_drew1) | exact HB.out))) : w.heap.size ≤ gb231)); clear HO228; clear HB; have HO228 := n0_; have HB := n1_; have BK231 := n2_; have GW231 := n3_; have GE231 := n4_; clear n0_ n1_ n2_ n3_ n4_; clear hb hbox hg; obtain ⟨Ao11, co11, eo11⟩ := Kd.R_slice HO228.out; subst eo11) | ((with_reducible refine gate_store (t := 45) (p := 3) rfl ?_); refine Arr.storeA ?hg (T := 45) (p := 3) (v := ?vo_w10) ?ho ?hn (g := gb231) (off := 0) ?hx (m := ((.bool t225) :: (.slice Ao11 t226.length co11) :: Arr.arL .i8 t229)) ?hy (t := 45) (pre := []) (old := ((.bool false) :: (.slice none 0 0) :: Arr.arL .i8 (Vector.replicate 16 0 : Vector Int 16))) (show w9.heap[gb231]? = some (.cells (⟨(.bool false) :: (.slice none 0 0) :: Arr.arL .i8 (Vector.replicate 16 0 : Vector Int 16)⟩ : Array Value) 45 (0, 0)) from by (with_reducible repeat (first | refine blk_drewN ?_ _ | refine blk_drew ?_ | refine blk_alloc ?_ _)); exact BK231.out) rfl (by simp [Arr.arL_length]) (n := 18) (by kernel_rfl) (by simp [Arr.arL_length]) (Arr.ones_2 rfl rfl) ?_; (case ho => rfl); (case hg => rfl); (case hn => rfl); (case hx => first | (go_simp; done) | rfl | (go_simp; rfl)); (case hy => first | (go_simp; done) | rfl | (go_simp; rfl)); intro w10 hbx hg hbe; replace hbx : w10.heap[gb231]? = some (.cells (⟨(.bool t225) :: (.slice Ao11 t226.length co11) :: Arr.arL .i8 t229⟩ : Array Value) 45 (0, 0)) := hbx; have n0_ := Aside0.mk (Kd.R_grown1 (by (with_reducible repeat (first | apply Kd.R_alloc | apply Kd.R_drewN | apply Kd.R_drew)); exact HO228.out) rfl hg (Kd.R_ne HO228.out BK231.out (by decide))); have n1_ := Aside0.mk (hbx); have n2_ := Aside0.mk (hbe _ _ (by repeat (first | (with_reducible first | exact HB.out | apply below_alloc | apply pw_below_drewN | apply below_drew1 | refine below_set ?_ GE231.out) | exact HB.out)) GE231.out); clear HO228; clear BK231; clear HB; have HO228 := n0_; have BK231 := n1_; have HB := n2_; clear n0_ n1_ n2_; (try clear hbx hg hbe)) | ((with_reducible refine gate_callee (f := 27) rfl ?_); refine goesL_ (some 21) rfl rfl Tryd.func27 (by kernel_rfl) rfl #[.string a0] rfl (by (try simp only [List.map_toArray, List.map_cons, List.map_nil]); first | done | (go_simp; done) | rfl | (simp only [List.length_drop, List.length_take]; rfl)) ?_; (with_reducible refine (impl_ReadHalf.calls k a0 t232 t233 t236 t237 _ ?side1 A5.out).mono ?_); (case side1 => first | exact hT | exact Tt.TT_on hT (by repeat (first | (with_reducible first | exact HB.out | apply below_alloc | apply pw_below_drewN | apply below_drew1 | refine below_set ?_ GE231.out) | exact HB.out))); rintro e w12 ⟨v234, rfl, ho0, hb⟩; refine ⟨_, rfl, ?_⟩; have n0_ := Aside0.mk (Kd.R_elder' (by (with_reducible repeat (first | apply Kd.R_alloc | apply Kd.R_drewN | apply Kd.R_drew)); exact HO228.out) (Kd.R_base ho0) hb); have n1_ := Aside0.mk (Kd.R_lower (Kd.R_new' ho0 (Kd.R_lt (by (with_reducible repeat (first | apply Kd.R_alloc | apply Kd.R_drewN | apply Kd.R_drew)); exact HO228.out))) (below_size (by repeat (first | (with_reducible first | exact HB.out | apply below_alloc | apply pw_below_drewN | apply below_drew1 | refine below_set ?_ GE231.out) | exact HB.out)))); have n2_ := Aside0.mk (blk_below (g := gb231) (o := .cells (⟨(.bool t225) :: (.slice Ao11 t226.length co11) :: Arr.arL .i8 t229⟩ : Array Value) 45 (0, 0)) (by (with_reducible repeat (first | refine blk_drewN ?_ _ | refine blk_drew ?_ | refine blk_alloc ?_ _)); exact BK231.out) hb); have n3_ := Aside0.mk (below_step (by repeat (first | (with_reducible first | exact HB.out | apply below_alloc | apply pw_below_drewN | apply below_drew1 | refine below_set ?_ GE231.out) | exact HB.out)) hb); clear HO228; clear BK231; clear HB; have HO228 := n0_; have HO235 := n1_; have BK231 := n2_; have HB := n3_; clear n0_ n1_ n2_ n3_; (try clear hb); (try clear hb2); (try clear hk); (try clear hi); (try clear ho0)) | ((with_reducible refine gate_dst (N := 5) rfl ?_); refine box_event ?hg (N := 5) ?hd (cs := (⟨(.bool false) :: (.slice none 0 0) :: Arr.arL .i8 (Vector.replicate 16 0 : Vector Int 16)⟩ : Array Value)) (t := 45) ?hr ?_; (case hd => rfl); (case hg => rfl); (case hr => first | (go_simp; done) | (go_simp; rfl)); intro gb238 hg w13 hbox hb; have n0_ := Aside0.mk (Kd.R_below (by (with_reducible repeat (first | apply Kd.R_alloc | apply Kd.R_drewN | apply Kd.R_drew)); exact HO228.out) hb); have n1_ := Aside0.mk (Kd.R_below (by (with_reducible repeat (first | apply Kd.R_alloc | apply Kd.R_drewN | apply Kd.R_drew)); exact HO235.out) hb); have n2_ := Aside0.mk (blk_below (g := gb231) (o := .cells (⟨(.bool t225) :: (.slice Ao11 t226.length co11) :: Arr.arL .i8 t229⟩ : Array Value) 45 (0, 0)) (by (with_reducible repeat (first | refine blk_drewN ?_ _ | refine blk_drew ?_ | refine blk_alloc ?_ _)); exact BK231.out) hb); have n3_ := Aside0.mk (below_step (by repeat (first | (with_reducible first | exact HB.out | apply below_alloc | apply pw_below_drewN | apply below_drew1 | refine below_set ?_ GE231.out) | exact HB.out)) hb); have n4_ := Aside0.mk (hbox); have n5_ := Aside0.mk ((by rw [hg]; exact (below_size (by repeat (first | (with_reducible first | exact HB.out | apply below_alloc | apply pw_below_drewN | apply below_drew1 | refine below_set ?_ GE231.out) | exact HB.out))) : w.heap.size ≤ gb238)); have n6_ := Aside0.mk ((by rw [hg]; exact (below_size (by repeat (first | (with_reducible first | exact HB.out | apply below_alloc | apply pw_below_drewN | apply below_drew1 | refine below_set ?_ GE231.out) | exact HB.out))) : w.heap.size ≤ gb238)); have n7_ := Aside0.mk ((by rw [hg]; exact Nat.ne_of_lt (blk_lt (g := gb231) (o := .cells (⟨(.bool t225) :: (.slice Ao11 t226.length co11) :: Arr.arL .i8 t229⟩ : Array Value) 45 (0, 0)) (by (with_reducible repeat (first | refine blk_drewN ?_ _ | refine blk_drew ?_ | refine blk_alloc ?_ _)); exact BK231.out)) : gb231 ≠ gb238)); have n8_ := Aside0.mk ((by rw [hg]; exact Nat.ne_of_gt (blk_lt (g := gb231) (o := .cells (⟨(.bool t225) :: (.slice Ao11 t226.length co11) :: Arr.arL .i8 t229⟩ : Array Value) 45 (0, 0)) (by (with_reducible repeat (first | refine blk_drewN ?_ _ | refine blk_drew ?_ | refine blk_alloc ?_ _)); exact BK231.out)) : gb238 ≠ gb231)); clear HO228; clear HO235; clear BK231; clear HB; have HO228 := n0_; have HO235 := n1_; have BK231 := n2_; have HB := n3_; have BK238 := n4_; have GW238 := n5_; have GE238 := n6_; have NB231_238 := n7_; have NB238_231 := n8_; clear n0_ n1_ n2_ n3_ n4_ n5_ n6_ n7_ n8_; clear hb hbox hg; obtain ⟨Ao15, co15, eo15⟩ := Kd.R_slice HO235.out; subst eo15) | ((with_reducible refine gate_store (t := 45) (p := 5) rfl ?_); refine Arr.storeA ?hg (T := 45) (p := 5) (v := ?vo_w14) ?ho ?hn (g := gb238) (off := 0) ?hx (m := ((.bool t232) :: (.slice Ao15 t233.length co15) :: Arr.arL .i8 t236)) ?hy (t := 45) (pre := []) (old := ((.bool false) :: (.slice none 0 0) :: Arr.arL .i8 (Vector.replicate 16 0 : Vector Int 16))) (show w13.heap[gb238]? = some (.cells (⟨(.bool false) :: (.slice none 0 0) :: Arr.arL .i8 (Vector.replicate 16 0 : Vector Int 16)⟩ : Array Value) 45 (0, 0)) from by (with_reducible repeat (first | refine blk_drewN ?_ _ | refine blk_drew ?_ | refine blk_alloc ?_ _)); exact BK238.out) rfl (by simp [Arr.arL_length]) (n := 18) (by kernel_rfl) (by simp [Arr.arL_length]) (Arr.ones_2 rfl rfl) ?_; (case ho => rfl); (case hg => rfl); (case hn => rfl); (case hx => first | (go_simp; done) | rfl | (go_simp; rfl)); (case hy => first | (go_simp; done) | rfl | (go_simp; rfl)); intro w14 hbx hg hbe; replace hbx : w14.heap[gb238]? = some (.cells (⟨(.bool t232) :: (.slice Ao15 t233.length co15) :: Arr.arL .i8 t236⟩ : Array Value) 45 (0, 0)) := hbx; have n0_ := Aside0.mk (Kd.R_grown1 (by (with_reducible repeat (first | apply Kd.R_alloc | apply Kd.R_drewN | apply Kd.R_drew)); exact HO228.out) rfl hg (Kd.R_ne HO228.out BK238.out (by decide))); have n1_ := Aside0.mk (blk_grown (g := gb231) (o := .cells (⟨(.bool t225) :: (.slice Ao11 t226.length co11) :: Arr.arL .i8 t229⟩ : Array Value) 45 (0, 0)) (by (with_reducible repeat (first | refine blk_drewN ?_ _ | refine blk_drew ?_ | refine blk_alloc ?_ _)); exact BK231.out) hg (fun e_ => NB231_238.out (Option.some.inj e_))); have n2_ := Aside0.mk (Kd.R_grown1 (by (with_reducible repeat (first | apply Kd.R_alloc | apply Kd.R_drewN | apply Kd.R_drew)); exact HO235.out) rfl hg (Kd.R_ne HO235.out BK238.out (by decide))); have n3_ := Aside0.mk (hbx); have n4_ := Aside0.mk (hbe _ _ (by repeat (first | (with_reducible first | exact HB.out | apply below_alloc | apply pw_below_drewN | apply below_drew1 | refine below_set ?_ GE231.out | refine below_set ?_ GE238.out) | exact HB.out)) GE238.out); clear HO228; clear BK231; clear HO235; clear BK238; clear HB; have HO228 := n0_; have BK231 := n1_; have HO235 := n2_; have BK238 := n3_; have HB := n4_; clear n0_ n1_ n2_ n3_ n4_; (try clear hbx hg hbe)))
    (try simp only [Act.put, List.setIfInBounds_toArray, List.set_cons_zero, List.set_cons_succ])
    go_cut [32] (fun v32 wc => ∃ (kq : Nat) (x32_6 : Bool), v32 = .bool x32_6 ∧ Aside0 (laws_FnExactReadHalf.j0 kq a0 t230 x32_6 t225 t226 t229 t232 t233 t236 = some r) ∧ Aside0 (kq ≤ k) ∧ Aside0 (Kd.R k62 62 wc w.heap.size (fun k_ => some k_ ≠ ((.slice Ao15 t233.length co15) : Value).ownBlock) (.slice Ao11 t226.length co11) t226) ∧ Aside0 (Kd.R k62 62 wc w.heap.size (fun k_ => some k_ ≠ ((.slice Ao11 t226.length co11) : Value).ownBlock) (.slice Ao15 t233.length co15) t233) ∧ Aside0 (wc.heap[gb231]? = some (.cells (⟨(.bool t225) :: ((.slice Ao11 t226.length co11)) :: Arr.arL .i8 t229⟩ : Array Value) 45 (0, 0))) ∧ Aside0 (wc.heap[gb238]? = some (.cells (⟨(.bool t232) :: ((.slice Ao15 t233.length co15)) :: Arr.arL .i8 t236⟩ : Array Value) 45 (0, 0))) ∧ Aside0 (Below w.heap.size w wc))
    case first =>
      have H := HC7.out
      clear HC7
      replace H := Option.bind_eq_some_iff.mp H
      obtain ⟨t239, A180, H⟩ := H
      replace H : (if t239 = true then (laws_FnExactReadHalf.j0 k a0 t230 (t237 != t230) t225 t226 t229 t232 t233 t236) else (laws_FnExactReadHalf.j0 k a0 t230 true t225 t226 t229 t232 t233 t236)) = some r := H
      have A18 := Aside0.mk A180
      clear A180
      by_cases c19 : t239 = true
      · subst c19
        have H1 : (laws_FnExactReadHalf.j0 k a0 t230 (t237 != t230) t225 t226 t229 t232 t233 t236) = some r := by rw [if_pos rfl] at H; exact H
        clear H
        have H := H1
        clear H1
        have H' := Aside0.mk H
        clear H
        go_wp2_with (first | ((with_reducible refine Arr.gate_load (t := 45) (p := 5) rfl ?_); (try (refine gate_guard (by rfl) ?_; dsimp only)); refine Arr.loadA ?hg (T := 45) (p := 5) ?ho (g := gb238) (off := 0) ?hx (t := 45) (l := ((.bool t232) :: (.slice Ao15 t233.length co15) :: Arr.arL .i8 t236)) (m := ((.bool t232) :: (.slice Ao15 t233.length co15) :: Arr.arL .i8 t236)) (fr := (0, 0)) (show w14.heap[gb238]? = some (.cells (⟨(.bool t232) :: (.slice Ao15 t233.length co15) :: Arr.arL .i8 t236⟩ : Array Value) 45 (0, 0)) from by (with_reducible repeat (first | refine blk_drewN ?_ _ | refine blk_drew ?_ | refine blk_alloc ?_ _)); exact BK238.out) rfl Tryd.underlying45 rfl (n := 18) (by kernel_rfl) (by simp [Arr.arL_length]) ?_; (case hg => rfl); (case ho => rfl); (case hx => first | (go_simp; done) | rfl | (go_simp; rfl))) | ((with_reducible refine Arr.gate_load (t := 45) (p := 3) rfl ?_); (try (refine gate_guard (by rfl) ?_; dsimp only)); refine Arr.loadA ?hg (T := 45) (p := 3) ?ho (g := gb231) (off := 0) ?hx (t := 45) (l := ((.bool t225) :: (.slice Ao11 t226.length co11) :: Arr.arL .i8 t229)) (m := ((.bool t225) :: (.slice Ao11 t226.length co11) :: Arr.arL .i8 t229)) (fr := (0, 0)) (show w14.heap[gb231]? = some (.cells (⟨(.bool t225) :: (.slice Ao11 t226.length co11) :: Arr.arL .i8 t229⟩ : Array Value) 45 (0, 0)) from by (with_reducible repeat (first | refine blk_drewN ?_ _ | refine blk_drew ?_ | refine blk_alloc ?_ _)); exact BK231.out) rfl Tryd.underlying45 rfl (n := 18) (by kernel_rfl) (by simp [Arr.arL_length]) ?_; (case hg => rfl); (case ho => rfl); (case hx => first | (go_simp; done) | rfl | (go_simp; rfl))) | ((with_reducible refine gate_callee (f := 25) rfl ?_); refine goesL_ (some 26) rfl rfl Tryd.func25 (by kernel_rfl) rfl #[.agg (⟨(.bool t232) :: (.slice Ao15 t233.length co15) :: Arr.arL .i8 t236⟩ : Array Value), .agg (⟨(.bool t225) :: (.slice Ao11 t226.length co11) :: Arr.arL .i8 t229⟩ : Array Value)] rfl (by (try simp only [List.map_toArray, List.map_cons, List.map_nil]); first | done | (go_simp; done) | rfl | (simp only [List.length_drop, List.length_take]; rfl)) ?_; (with_reducible refine (laws_eqHalf.calls k t232 _ _ t233 t236 t225 _ _ t226 t229 true _ ?side1 ?side2 ?side3 ?side4 A18.out).mono ?_); (case side1 => repeat (first | exact (Kd.R_reads' HO235.out).2.2 | (with_reducible refine Kd.C_alloc ?_ _) | (with_reducible refine Kd.C_drewN ?_ _) | (with_reducible refine Kd.C_drew ?_))); (case side2 => exact (Kd.R_reads' HO235.out).2.1); (case side3 => repeat (first | exact (Kd.R_reads' HO228.out).2.2 | (with_reducible refine Kd.C_alloc ?_ _) | (with_reducible refine Kd.C_drewN ?_ _) | (with_reducible refine Kd.C_drew ?_))); (case side4 => exact (Kd.R_reads' HO228.out).2.1); rintro e w20 ⟨rfl, hb⟩; refine ⟨_, rfl, ?_⟩; have n0_ := Aside0.mk (Kd.R_below (by (with_reducible repeat (first | apply Kd.R_alloc | apply Kd.R_drewN | apply Kd.R_drew)); exact HO228.out) hb); have n1_ := Aside0.mk (Kd.R_below (by (with_reducible repeat (first | apply Kd.R_alloc | apply Kd.R_drewN | apply Kd.R_drew)); exact HO235.out) hb); have n2_ := Aside0.mk (blk_below (g := gb231) (o := .cells (⟨(.bool t225) :: (.slice Ao11 t226.length co11) :: Arr.arL .i8 t229⟩ : Array Value) 45 (0, 0)) (by (with_reducible repeat (first | refine blk_drewN ?_ _ | refine blk_drew ?_ | refine blk_alloc ?_ _)); exact BK231.out) hb); have n3_ := Aside0.mk (blk_below (g := gb238) (o := .cells (⟨(.bool t232) :: (.slice Ao15 t233.length co15) :: Arr.arL .i8 t236⟩ : Array Value) 45 (0, 0)) (by (with_reducible repeat (first | refine blk_drewN ?_ _ | refine blk_drew ?_ | refine blk_alloc ?_ _)); exact BK238.out) hb); have n4_ := Aside0.mk (below_step (by repeat (first | (with_reducible first | exact HB.out | apply below_alloc | apply pw_below_drewN | apply below_drew1 | refine below_set ?_ GE231.out | refine below_set ?_ GE238.out) | exact HB.out)) hb); clear HO228; clear HO235; clear BK231; clear BK238; clear HB; have HO228 := n0_; have HO235 := n1_; have BK231 := n2_; have BK238 := n3_; have HB := n4_; clear n0_ n1_ n2_ n3_ n4_; (try clear hb); (try clear hb2); (try clear hk); (try clear hi)))
        go_meet
        case rel => exact ⟨_, ((t237 != t230)), (by first | rfl | (simp; done) | (simp [*]; done)), H', ⟨by first | omega | exact Nat.le_refl _⟩, ⟨by (with_reducible repeat (first | apply Kd.R_alloc | apply Kd.R_drewN | apply Kd.R_drew)); exact Kd.R_mono HO228.out (fun _ hk => hk.2)⟩, ⟨by (with_reducible repeat (first | apply Kd.R_alloc | apply Kd.R_drewN | apply Kd.R_drew)); exact Kd.R_mono HO235.out (fun _ hk => hk.2)⟩, ⟨by (with_reducible repeat (first | refine blk_drewN ?_ _ | refine blk_drew ?_ | refine blk_alloc ?_ _)); exact BK231.out⟩, ⟨by (with_reducible repeat (first | refine blk_drewN ?_ _ | refine blk_drew ?_ | refine blk_alloc ?_ _)); exact BK238.out⟩, ⟨by repeat (first | (with_reducible first | exact HB.out | apply below_alloc | apply pw_below_drewN | apply below_drew1 | refine below_set ?_ GE231.out | refine below_set ?_ GE238.out) | exact HB.out)⟩⟩
      · replace c19 := Bool.eq_false_iff.mpr c19
        subst c19
        have H1 : (laws_FnExactReadHalf.j0 k a0 t230 true t225 t226 t229 t232 t233 t236) = some r := by rw [if_neg (show ¬ (false = true) by decide)] at H; exact H
        clear H
        have H := H1
        clear H1
        have H' := Aside0.mk H
        clear H
        go_wp2_with (first | ((with_reducible refine Arr.gate_load (t := 45) (p := 5) rfl ?_); (try (refine gate_guard (by rfl) ?_; dsimp only)); refine Arr.loadA ?hg (T := 45) (p := 5) ?ho (g := gb238) (off := 0) ?hx (t := 45) (l := ((.bool t232) :: (.slice Ao15 t233.length co15) :: Arr.arL .i8 t236)) (m := ((.bool t232) :: (.slice Ao15 t233.length co15) :: Arr.arL .i8 t236)) (fr := (0, 0)) (show w14.heap[gb238]? = some (.cells (⟨(.bool t232) :: (.slice Ao15 t233.length co15) :: Arr.arL .i8 t236⟩ : Array Value) 45 (0, 0)) from by (with_reducible repeat (first | refine blk_drewN ?_ _ | refine blk_drew ?_ | refine blk_alloc ?_ _)); exact BK238.out) rfl Tryd.underlying45 rfl (n := 18) (by kernel_rfl) (by simp [Arr.arL_length]) ?_; (case hg => rfl); (case ho => rfl); (case hx => first | (go_simp; done) | rfl | (go_simp; rfl))) | ((with_reducible refine Arr.gate_load (t := 45) (p := 3) rfl ?_); (try (refine gate_guard (by rfl) ?_; dsimp only)); refine Arr.loadA ?hg (T := 45) (p := 3) ?ho (g := gb231) (off := 0) ?hx (t := 45) (l := ((.bool t225) :: (.slice Ao11 t226.length co11) :: Arr.arL .i8 t229)) (m := ((.bool t225) :: (.slice Ao11 t226.length co11) :: Arr.arL .i8 t229)) (fr := (0, 0)) (show w14.heap[gb231]? = some (.cells (⟨(.bool t225) :: (.slice Ao11 t226.length co11) :: Arr.arL .i8 t229⟩ : Array Value) 45 (0, 0)) from by (with_reducible repeat (first | refine blk_drewN ?_ _ | refine blk_drew ?_ | refine blk_alloc ?_ _)); exact BK231.out) rfl Tryd.underlying45 rfl (n := 18) (by kernel_rfl) (by simp [Arr.arL_length]) ?_; (case hg => rfl); (case ho => rfl); (case hx => first | (go_simp; done) | rfl | (go_simp; rfl))) | ((with_reducible refine gate_callee (f := 25) rfl ?_); refine goesL_ (some 26) rfl rfl Tryd.func25 (by kernel_rfl) rfl #[.agg (⟨(.bool t232) :: (.slice Ao15 t233.length co15) :: Arr.arL .i8 t236⟩ : Array Value), .agg (⟨(.bool t225) :: (.slice Ao11 t226.length co11) :: Arr.arL .i8 t229⟩ : Array Value)] rfl (by (try simp only [List.map_toArray, List.map_cons, List.map_nil]); first | done | (go_simp; done) | rfl | (simp only [List.length_drop, List.length_take]; rfl)) ?_; (with_reducible refine (laws_eqHalf.calls k t232 _ _ t233 t236 t225 _ _ t226 t229 false _ ?side1 ?side2 ?side3 ?side4 A18.out).mono ?_); (case side1 => repeat (first | exact (Kd.R_reads' HO235.out).2.2 | (with_reducible refine Kd.C_alloc ?_ _) | (with_reducible refine Kd.C_drewN ?_ _) | (with_reducible refine Kd.C_drew ?_))); (case side2 => exact (Kd.R_reads' HO235.out).2.1); (case side3 => repeat (first | exact (Kd.R_reads' HO228.out).2.2 | (with_reducible refine Kd.C_alloc ?_ _) | (with_reducible refine Kd.C_drewN ?_ _) | (with_reducible refine Kd.C_drew ?_))); (case side4 => exact (Kd.R_reads' HO228.out).2.1); rintro e w21 ⟨rfl, hb⟩; refine ⟨_, rfl, ?_⟩; have n0_ := Aside0.mk (Kd.R_below (by (with_reducible repeat (first | apply Kd.R_alloc | apply Kd.R_drewN | apply Kd.R_drew)); exact HO228.out) hb); have n1_ := Aside0.mk (Kd.R_below (by (with_reducible repeat (first | apply Kd.R_alloc | apply Kd.R_drewN | apply Kd.R_drew)); exact HO235.out) hb); have n2_ := Aside0.mk (blk_below (g := gb231) (o := .cells (⟨(.bool t225) :: (.slice Ao11 t226.length co11) :: Arr.arL .i8 t229⟩ : Array Value) 45 (0, 0)) (by (with_reducible repeat (first | refine blk_drewN ?_ _ | refine blk_drew ?_ | refine blk_alloc ?_ _)); exact BK231.out) hb); have n3_ := Aside0.mk (blk_below (g := gb238) (o := .cells (⟨(.bool t232) :: (.slice Ao15 t233.length co15) :: Arr.arL .i8 t236⟩ : Array Value) 45 (0, 0)) (by (with_reducible repeat (first | refine blk_drewN ?_ _ | refine blk_drew ?_ | refine blk_alloc ?_ _)); exact BK238.out) hb); have n4_ := Aside0.mk (below_step (by repeat (first | (with_reducible first | exact HB.out | apply below_alloc | apply pw_below_drewN | apply below_drew1 | refine below_set ?_ GE231.out | refine below_set ?_ GE238.out) | exact HB.out)) hb); clear HO228; clear HO235; clear BK231; clear BK238; clear HB; have HO228 := n0_; have HO235 := n1_; have BK231 := n2_; have BK238 := n3_; have HB := n4_; clear n0_ n1_ n2_ n3_ n4_; (try clear hb); (try clear hb2); (try clear hk); (try clear hi)))
        go_meet
        case rel => exact ⟨_, (true), (by first | rfl | (simp; done) | (simp [*]; done)), H', ⟨by first | omega | exact Nat.le_refl _⟩, ⟨by (with_reducible repeat (first | apply Kd.R_alloc | apply Kd.R_drewN | apply Kd.R_drew)); exact Kd.R_mono HO228.out (fun _ hk => hk.2)⟩, ⟨by (with_reducible repeat (first | apply Kd.R_alloc | apply Kd.R_drewN | apply Kd.R_drew)); exact Kd.R_mono HO235.out (fun _ hk => hk.2)⟩, ⟨by (with_reducible repeat (first | refine blk_drewN ?_ _ | refine blk_drew ?_ | refine blk_alloc ?_ _)); exact BK231.out⟩, ⟨by (with_reducible repeat (first | refine blk_drewN ?_ _ | refine blk_drew ?_ | refine blk_alloc ?_ _)); exact BK238.out⟩, ⟨by repeat (first | (with_reducible first | exact HB.out | apply below_alloc | apply pw_below_drewN | apply below_drew1 | refine below_set ?_ GE231.out | refine below_set ?_ GE238.out) | exact HB.out)⟩⟩
    case rest =>
      clear HC7
      try clear c1
      try clear c2
      try clear c2b0
      try clear c2b1
      try clear p2
      try clear c7
      try clear c19
      obtain ⟨kq, x32_6, rfl, HA, HJ6, HO_232001, HO_239001, BK231, BK238, HB⟩ := hcut
      cases kq with
      | zero => exact absurd HA.out (by simp [laws_FnExactReadHalf.j0])
      | succ kj6 =>
        have H := HA.out
        clear HA
        simp only [laws_FnExactReadHalf.j0] at H
        by_cases c22 : x32_6 = true
        · subst c22
          have H1 : (some false) = some r := by rw [if_pos rfl] at H; exact H
          clear H
          have H := H1
          clear H1
          obtain rfl := Option.some.inj H
          cases ht
        · replace c22 := Bool.eq_false_iff.mpr c22
          subst c22
          have H1 : ((laws_markHalf.f kj6 t232 t233 t236 1).bind fun bt240 => ((laws_heldHalf.f kj6 t232 bt240.2 t236 1).bind fun t242 => (if t242 < 0 then (some false) else (if t242 = bt240.1 then ((impl_ReadHalf.f kj6 a0).bind fun bt243 => ((laws_eqHalf.f kj6 bt243.1 bt243.2.1 bt243.2.2.1 t225 t226 t229).bind fun t250 => (if t250 = true then (laws_FnExactReadHalf.j1 kj6 bt240.1 (bt243.2.2.2 != t230) t232 bt240.2 t236) else (laws_FnExactReadHalf.j1 kj6 bt240.1 true t232 bt240.2 t236)))) else (some false))))) = some r := by rw [if_neg (show ¬ (false = true) by decide)] at H; exact H
          clear H
          have H := H1
          clear H1
          replace H := Option.bind_eq_some_iff.mp H
          obtain ⟨⟨t240, t241⟩, A240, H⟩ := H
          replace H : ((laws_heldHalf.f kj6 t232 t241 t236 1).bind fun t242 => (if t242 < 0 then (some false) else (if t242 = t240 then ((impl_ReadHalf.f kj6 a0).bind fun bt243 => ((laws_eqHalf.f kj6 bt243.1 bt243.2.1 bt243.2.2.1 t225 t226 t229).bind fun t250 => (if t250 = true then (laws_FnExactReadHalf.j1 kj6 t240 (bt243.2.2.2 != t230) t232 t241 t236) else (laws_FnExactReadHalf.j1 kj6 t240 true t232 t241 t236)))) else (some false)))) = some r := H
          have A24 := Aside0.mk A240
          clear A240
          replace H := Option.bind_eq_some_iff.mp H
          obtain ⟨t242, A260, H⟩ := H
          replace H : (if t242 < 0 then (some false) else (if t242 = t240 then ((impl_ReadHalf.f kj6 a0).bind fun bt243 => ((laws_eqHalf.f kj6 bt243.1 bt243.2.1 bt243.2.2.1 t225 t226 t229).bind fun t250 => (if t250 = true then (laws_FnExactReadHalf.j1 kj6 t240 (bt243.2.2.2 != t230) t232 t241 t236) else (laws_FnExactReadHalf.j1 kj6 t240 true t232 t241 t236)))) else (some false))) = some r := H
          have A26 := Aside0.mk A260
          clear A260
          by_cases c27 : t242 < 0
          · rw [if_pos c27] at H
            have c27b0 : decide (t242 < 0) = true := decide_eq_true c27
            clear c27
            obtain rfl := Option.some.inj H
            cases ht
          · rw [if_neg c27] at H
            have c27b0 : decide (t242 < 0) = false := decide_eq_false c27
            clear c27
            by_cases c28 : t242 = t240
            · rw [if_pos c28] at H
              have c28b0 : (t242 == t240) = true := beq_iff_eq.mpr c28
              have c28b1 : (t242 != t240) = false := bne_eq_false_iff_eq.mpr c28
              clear c28
              replace H := Option.bind_eq_some_iff.mp H
              obtain ⟨⟨t243, t244, t247, t248⟩, A290, H⟩ := H
              replace H : ((laws_eqHalf.f kj6 t243 t244 t247 t225 t226 t229).bind fun t250 => (if t250 = true then (laws_FnExactReadHalf.j1 kj6 t240 (t248 != t230) t232 t241 t236) else (laws_FnExactReadHalf.j1 kj6 t240 true t232 t241 t236))) = some r := H
              have A29 := Aside0.mk A290
              clear A290
              have HC31 := Aside0.mk H
              clear H
              go_upto_region 16 with (first | ((with_reducible refine Arr.gate_load (t := 45) (p := 5) rfl ?_); (try (refine gate_guard (by rfl) ?_; dsimp only)); refine Arr.loadA ?hg (T := 45) (p := 5) ?ho (g := gb238) (off := 0) ?hx (t := 45) (l := ((.bool t232) :: (.slice Ao15 t233.length co15) :: Arr.arL .i8 t236)) (m := ((.bool t232) :: (.slice Ao15 t233.length co15) :: Arr.arL .i8 t236)) (fr := (0, 0)) (show wc.heap[gb238]? = some (.cells (⟨(.bool t232) :: (.slice Ao15 t233.length co15) :: Arr.arL .i8 t236⟩ : Array Value) 45 (0, 0)) from by (with_reducible repeat (first | refine blk_drewN ?_ _ | refine blk_drew ?_ | refine blk_alloc ?_ _)); exact BK238.out) rfl Tryd.underlying45 rfl (n := 18) (by kernel_rfl) (by simp [Arr.arL_length]) ?_; (case hg => rfl); (case ho => rfl); (case hx => first | (go_simp; done) | rfl | (go_simp; rfl))) | ((with_reducible refine gate_callee (f := 28) rfl ?_); refine goesL_ (some 35) rfl rfl Tryd.func28 (by kernel_rfl) rfl #[.agg (⟨(.bool t232) :: (.slice Ao15 t233.length co15) :: Arr.arL .i8 t236⟩ : Array Value), .int .i64 1] rfl (by (try simp only [List.map_toArray, List.map_cons, List.map_nil]); first | done | (go_simp; done) | rfl | (simp only [List.length_drop, List.length_take]; rfl)) ?_; (with_reducible refine (laws_markHalf.calls kj6 t232 (fun k_ => some k_ = (.slice Ao15 t233.length co15 : Value).ownBlock) (.slice Ao15 t233.length co15) t233 t236 1 t240 t241 w _ ?side1 ?side2 A24.out).mono ?_); (case side1 => repeat (first | (with_reducible first | exact HB.out | apply below_alloc | apply pw_below_drewN | apply below_drew1 | refine below_set ?_ GE231.out | refine below_set ?_ GE238.out) | exact HB.out)); (case side2 => exact Kd.R_tight rfl HO_239001.out); rintro e w32 ⟨rfl, hy0, hb, hkp⟩; refine ⟨_, rfl, ?_⟩; have n0_ := Aside0.mk (Kd.R_mono (ok' := fun k_ => some k_ ≠ (.slice Ao15 t233.length co15 : Value).ownBlock) (Kd.R_keptB (HO_232001.out) hkp (fun k_ hk_ hs_ => (hk_) hs_)) (fun k_ hk_ => hk_.1)); have n1_ := Aside0.mk (Kd.R_reok rfl hy0 (fun k_ e_ => HO_239001.out.1 k_ e_)); have n2_ := Aside0.mk (blk_kept (by (with_reducible repeat (first | refine blk_drewN ?_ _ | refine blk_drew ?_ | refine blk_alloc ?_ _)); exact BK231.out) hkp (fun hs_ => (fun e_ => (Kd.R_ne HO_239001.out BK231.out (by decide)) e_) hs_)); have n3_ := Aside0.mk (blk_kept (by (with_reducible repeat (first | refine blk_drewN ?_ _ | refine blk_drew ?_ | refine blk_alloc ?_ _)); exact BK238.out) hkp (fun hs_ => (fun e_ => (Kd.R_ne HO_239001.out BK238.out (by decide)) e_) hs_)); have n4_ := Aside0.mk (hb); clear HO_232001; clear HO_239001; clear BK231; clear BK238; clear HB; have HO_232001 := n0_; have HO_239001 := n1_; have BK231 := n2_; have BK238 := n3_; have HB := n4_; clear n0_ n1_ n2_ n3_ n4_; (try clear hb); (try clear hkp); (try clear hy0)) | ((with_reducible refine Arr.gate_load (t := 45) (p := 5) rfl ?_); (try (refine gate_guard (by rfl) ?_; dsimp only)); refine Arr.loadA ?hg (T := 45) (p := 5) ?ho (g := gb238) (off := 0) ?hx (t := 45) (l := ((.bool t232) :: (.slice Ao15 t233.length co15) :: Arr.arL .i8 t236)) (m := ((.bool t232) :: (.slice Ao15 t233.length co15) :: Arr.arL .i8 t236)) (fr := (0, 0)) (show w32.heap[gb238]? = some (.cells (⟨(.bool t232) :: (.slice Ao15 t233.length co15) :: Arr.arL .i8 t236⟩ : Array Value) 45 (0, 0)) from by (with_reducible repeat (first | refine blk_drewN ?_ _ | refine blk_drew ?_ | refine blk_alloc ?_ _)); exact BK238.out) rfl Tryd.underlying45 rfl (n := 18) (by kernel_rfl) (by simp [Arr.arL_length]) ?_; (case hg => rfl); (case ho => rfl); (case hx => first | (go_simp; done) | rfl | (go_simp; rfl))) | ((with_reducible refine gate_callee (f := 29) rfl ?_); refine goesL_ (some 38) rfl rfl Tryd.func29 (by kernel_rfl) rfl #[.agg (⟨(.bool t232) :: (.slice Ao15 t241.length co15) :: Arr.arL .i8 t236⟩ : Array Value), .int .i64 1] rfl (by (try simp only [List.map_toArray, List.map_cons, List.map_nil]); first | done | (rw [show t241.length = t233.length from (Kd.R_reads' HO_239001.out).1.symm] <;> rfl) | (go_simp; done) | rfl | (simp only [List.length_drop, List.length_take]; rfl)) ?_; (with_reducible refine (laws_heldHalf.calls kj6 t232 _ _ t241 t236 1 t242 _ ?side1 ?side2 A26.out).mono ?_); (case side1 => repeat (first | exact (Kd.R_reads' HO_239001.out).2.2 | (with_reducible refine Kd.C_alloc ?_ _) | (with_reducible refine Kd.C_drewN ?_ _) | (with_reducible refine Kd.C_drew ?_))); (case side2 => rw [show t241.length = t233.length from (Kd.R_reads' HO_239001.out).1.symm]; exact (Kd.R_reads' HO_239001.out).2.1); rintro e w33 ⟨rfl, hb⟩; refine ⟨_, rfl, ?_⟩; have n0_ := Aside0.mk (Kd.R_below (by (with_reducible repeat (first | apply Kd.R_alloc | apply Kd.R_drewN | apply Kd.R_drew)); exact HO_232001.out) hb); have n1_ := Aside0.mk (Kd.R_below (by (with_reducible repeat (first | apply Kd.R_alloc | apply Kd.R_drewN | apply Kd.R_drew)); exact HO_239001.out) hb); have n2_ := Aside0.mk (blk_below (g := gb231) (o := .cells (⟨(.bool t225) :: (.slice Ao11 t226.length co11) :: Arr.arL .i8 t229⟩ : Array Value) 45 (0, 0)) (by (with_reducible repeat (first | refine blk_drewN ?_ _ | refine blk_drew ?_ | refine blk_alloc ?_ _)); exact BK231.out) hb); have n3_ := Aside0.mk (blk_below (g := gb238) (o := .cells (⟨(.bool t232) :: (.slice Ao15 t233.length co15) :: Arr.arL .i8 t236⟩ : Array Value) 45 (0, 0)) (by (with_reducible repeat (first | refine blk_drewN ?_ _ | refine blk_drew ?_ | refine blk_alloc ?_ _)); exact BK238.out) hb); have n4_ := Aside0.mk (below_step (by repeat (first | (with_reducible first | exact HB.out | apply below_alloc | apply pw_below_drewN | apply below_drew1 | refine below_set ?_ GE231.out | refine below_set ?_ GE238.out) | exact HB.out)) hb); clear HO_232001; clear HO_239001; clear BK231; clear BK238; clear HB; have HO_232001 := n0_; have HO_239001 := n1_; have BK231 := n2_; have BK238 := n3_; have HB := n4_; clear n0_ n1_ n2_ n3_ n4_; (try clear hb); (try clear hb2); (try clear hk); (try clear hi)) | ((with_reducible refine gate_callee (f := 27) rfl ?_); refine goesL_ (some 46) rfl rfl Tryd.func27 (by kernel_rfl) rfl #[.string a0] rfl (by (try simp only [List.map_toArray, List.map_cons, List.map_nil]); first | done | (go_simp; done) | rfl | (simp only [List.length_drop, List.length_take]; rfl)) ?_; (with_reducible refine (impl_ReadHalf.calls kj6 a0 t243 t244 t247 t248 _ ?side1 A29.out).mono ?_); (case side1 => first | exact hT | exact Tt.TT_on hT (by repeat (first | (with_reducible first | exact HB.out | apply below_alloc | apply pw_below_drewN | apply below_drew1 | refine below_set ?_ GE231.out | refine below_set ?_ GE238.out) | exact HB.out))); rintro e w34 ⟨v245, rfl, ho0, hb⟩; refine ⟨_, rfl, ?_⟩; have n0_ := Aside0.mk (Kd.R_elder' (by (with_reducible repeat (first | apply Kd.R_alloc | apply Kd.R_drewN | apply Kd.R_drew)); exact HO_232001.out) (Kd.R_base ho0) hb); have n1_ := Aside0.mk (Kd.R_elder' (by (with_reducible repeat (first | apply Kd.R_alloc | apply Kd.R_drewN | apply Kd.R_drew)); exact HO_239001.out) (Kd.R_base ho0) hb); have n2_ := Aside0.mk (Kd.R_lower (Kd.R_new' (Kd.R_new' ho0 (Kd.R_lt (by (with_reducible repeat (first | apply Kd.R_alloc | apply Kd.R_drewN | apply Kd.R_drew)); exact HO_232001.out))) (Kd.R_lt (by (with_reducible repeat (first | apply Kd.R_alloc | apply Kd.R_drewN | apply Kd.R_drew)); exact HO_239001.out))) (below_size (by repeat (first | (with_reducible first | exact HB.out | apply below_alloc | apply pw_below_drewN | apply below_drew1 | refine below_set ?_ GE231.out | refine below_set ?_ GE238.out) | exact HB.out)))); have n3_ := Aside0.mk (blk_below (g := gb231) (o := .cells (⟨(.bool t225) :: (.slice Ao11 t226.length co11) :: Arr.arL .i8 t229⟩ : Array Value) 45 (0, 0)) (by (with_reducible repeat (first | refine blk_drewN ?_ _ | refine blk_drew ?_ | refine blk_alloc ?_ _)); exact BK231.out) hb); have n4_ := Aside0.mk (blk_below (g := gb238) (o := .cells (⟨(.bool t232) :: (.slice Ao15 t233.length co15) :: Arr.arL .i8 t236⟩ : Array Value) 45 (0, 0)) (by (with_reducible repeat (first | refine blk_drewN ?_ _ | refine blk_drew ?_ | refine blk_alloc ?_ _)); exact BK238.out) hb); have n5_ := Aside0.mk (below_step (by repeat (first | (with_reducible first | exact HB.out | apply below_alloc | apply pw_below_drewN | apply below_drew1 | refine below_set ?_ GE231.out | refine below_set ?_ GE238.out) | exact HB.out)) hb); clear HO_232001; clear HO_239001; clear BK231; clear BK238; clear HB; have HO_232001 := n0_; have HO_239001 := n1_; have HO246 := n2_; have BK231 := n3_; have BK238 := n4_; have HB := n5_; clear n0_ n1_ n2_ n3_ n4_ n5_; (try clear hb); (try clear hb2); (try clear hk); (try clear hi); (try clear ho0)) | ((with_reducible refine gate_dst (N := 9) rfl ?_); refine box_event ?hg (N := 9) ?hd (cs := (⟨(.bool false) :: (.slice none 0 0) :: Arr.arL .i8 (Vector.replicate 16 0 : Vector Int 16)⟩ : Array Value)) (t := 45) ?hr ?_; (case hd => rfl); (case hg => rfl); (case hr => first | (go_simp; done) | (go_simp; rfl)); intro gb249 hg w35 hbox hb; have n0_ := Aside0.mk (Kd.R_below (by (with_reducible repeat (first | apply Kd.R_alloc | apply Kd.R_drewN | apply Kd.R_drew)); exact HO_232001.out) hb); have n1_ := Aside0.mk (Kd.R_below (by (with_reducible repeat (first | apply Kd.R_alloc | apply Kd.R_drewN | apply Kd.R_drew)); exact HO_239001.out) hb); have n2_ := Aside0.mk (Kd.R_below (by (with_reducible repeat (first | apply Kd.R_alloc | apply Kd.R_drewN | apply Kd.R_drew)); exact HO246.out) hb); have n3_ := Aside0.mk (blk_below (g := gb231) (o := .cells (⟨(.bool t225) :: (.slice Ao11 t226.length co11) :: Arr.arL .i8 t229⟩ : Array Value) 45 (0, 0)) (by (with_reducible repeat (first | refine blk_drewN ?_ _ | refine blk_drew ?_ | refine blk_alloc ?_ _)); exact BK231.out) hb); have n4_ := Aside0.mk (blk_below (g := gb238) (o := .cells (⟨(.bool t232) :: (.slice Ao15 t233.length co15) :: Arr.arL .i8 t236⟩ : Array Value) 45 (0, 0)) (by (with_reducible repeat (first | refine blk_drewN ?_ _ | refine blk_drew ?_ | refine blk_alloc ?_ _)); exact BK238.out) hb); have n5_ := Aside0.mk (below_step (by repeat (first | (with_reducible first | exact HB.out | apply below_alloc | apply pw_below_drewN | apply below_drew1 | refine below_set ?_ GE231.out | refine below_set ?_ GE238.out) | exact HB.out)) hb); have n6_ := Aside0.mk (hbox); have n7_ := Aside0.mk ((by rw [hg]; exact (below_size (by repeat (first | (with_reducible first | exact HB.out | apply below_alloc | apply pw_below_drewN | apply below_drew1 | refine below_set ?_ GE231.out | refine below_set ?_ GE238.out) | exact HB.out))) : w.heap.size ≤ gb249)); have n8_ := Aside0.mk ((by rw [hg]; exact (below_size (by repeat (first | (with_reducible first | exact HB.out | apply below_alloc | apply pw_below_drewN | apply below_drew1 | refine below_set ?_ GE231.out | refine below_set ?_ GE238.out) | exact HB.out))) : w.heap.size ≤ gb249)); have n9_ := Aside0.mk ((by rw [hg]; exact Nat.ne_of_lt (blk_lt (g := gb231) (o := .cells (⟨(.bool t225) :: (.slice Ao11 t226.length co11) :: Arr.arL .i8 t229⟩ : Array Value) 45 (0, 0)) (by (with_reducible repeat (first | refine blk_drewN ?_ _ | refine blk_drew ?_ | refine blk_alloc ?_ _)); exact BK231.out)) : gb231 ≠ gb249)); have n10_ := Aside0.mk ((by rw [hg]; exact Nat.ne_of_gt (blk_lt (g := gb231) (o := .cells (⟨(.bool t225) :: (.slice Ao11 t226.length co11) :: Arr.arL .i8 t229⟩ : Array Value) 45 (0, 0)) (by (with_reducible repeat (first | refine blk_drewN ?_ _ | refine blk_drew ?_ | refine blk_alloc ?_ _)); exact BK231.out)) : gb249 ≠ gb231)); have n11_ := Aside0.mk ((by rw [hg]; exact Nat.ne_of_lt (blk_lt (g := gb238) (o := .cells (⟨(.bool t232) :: (.slice Ao15 t233.length co15) :: Arr.arL .i8 t236⟩ : Array Value) 45 (0, 0)) (by (with_reducible repeat (first | refine blk_drewN ?_ _ | refine blk_drew ?_ | refine blk_alloc ?_ _)); exact BK238.out)) : gb238 ≠ gb249)); have n12_ := Aside0.mk ((by rw [hg]; exact Nat.ne_of_gt (blk_lt (g := gb238) (o := .cells (⟨(.bool t232) :: (.slice Ao15 t233.length co15) :: Arr.arL .i8 t236⟩ : Array Value) 45 (0, 0)) (by (with_reducible repeat (first | refine blk_drewN ?_ _ | refine blk_drew ?_ | refine blk_alloc ?_ _)); exact BK238.out)) : gb249 ≠ gb238)); clear HO_232001; clear HO_239001; clear HO246; clear BK231; clear BK238; clear HB; have HO_232001 := n0_; have HO_239001 := n1_; have HO246 := n2_; have BK231 := n3_; have BK238 := n4_; have HB := n5_; have BK249 := n6_; have GW249 := n7_; have GE249 := n8_; have NB231_249 := n9_; have NB249_231 := n10_; have NB238_249 := n11_; have NB249_238 := n12_; clear n0_ n1_ n2_ n3_ n4_ n5_ n6_ n7_ n8_ n9_ n10_ n11_ n12_; clear hb hbox hg; obtain ⟨Ao37, co37, eo37⟩ := Kd.R_slice HO246.out; subst eo37) | ((with_reducible refine gate_store (t := 45) (p := 9) rfl ?_); refine Arr.storeA ?hg (T := 45) (p := 9) (v := ?vo_w36) ?ho ?hn (g := gb249) (off := 0) ?hx (m := ((.bool t243) :: (.slice Ao37 t244.length co37) :: Arr.arL .i8 t247)) ?hy (t := 45) (pre := []) (old := ((.bool false) :: (.slice none 0 0) :: Arr.arL .i8 (Vector.replicate 16 0 : Vector Int 16))) (show w35.heap[gb249]? = some (.cells (⟨(.bool false) :: (.slice none 0 0) :: Arr.arL .i8 (Vector.replicate 16 0 : Vector Int 16)⟩ : Array Value) 45 (0, 0)) from by (with_reducible repeat (first | refine blk_drewN ?_ _ | refine blk_drew ?_ | refine blk_alloc ?_ _)); exact BK249.out) rfl (by simp [Arr.arL_length]) (n := 18) (by kernel_rfl) (by simp [Arr.arL_length]) (Arr.ones_2 rfl rfl) ?_; (case ho => rfl); (case hg => rfl); (case hn => rfl); (case hx => first | (go_simp; done) | rfl | (go_simp; rfl)); (case hy => first | (go_simp; done) | rfl | (go_simp; rfl)); intro w36 hbx hg hbe; replace hbx : w36.heap[gb249]? = some (.cells (⟨(.bool t243) :: (.slice Ao37 t244.length co37) :: Arr.arL .i8 t247⟩ : Array Value) 45 (0, 0)) := hbx; have n0_ := Aside0.mk (Kd.R_grown1 (by (with_reducible repeat (first | apply Kd.R_alloc | apply Kd.R_drewN | apply Kd.R_drew)); exact HO_232001.out) rfl hg (Kd.R_ne HO_232001.out BK249.out (by decide))); have n1_ := Aside0.mk (Kd.R_grown1 (by (with_reducible repeat (first | apply Kd.R_alloc | apply Kd.R_drewN | apply Kd.R_drew)); exact HO_239001.out) rfl hg (Kd.R_ne HO_239001.out BK249.out (by decide))); have n2_ := Aside0.mk (blk_grown (g := gb231) (o := .cells (⟨(.bool t225) :: (.slice Ao11 t226.length co11) :: Arr.arL .i8 t229⟩ : Array Value) 45 (0, 0)) (by (with_reducible repeat (first | refine blk_drewN ?_ _ | refine blk_drew ?_ | refine blk_alloc ?_ _)); exact BK231.out) hg (fun e_ => NB231_249.out (Option.some.inj e_))); have n3_ := Aside0.mk (blk_grown (g := gb238) (o := .cells (⟨(.bool t232) :: (.slice Ao15 t233.length co15) :: Arr.arL .i8 t236⟩ : Array Value) 45 (0, 0)) (by (with_reducible repeat (first | refine blk_drewN ?_ _ | refine blk_drew ?_ | refine blk_alloc ?_ _)); exact BK238.out) hg (fun e_ => NB238_249.out (Option.some.inj e_))); have n4_ := Aside0.mk (Kd.R_grown1 (by (with_reducible repeat (first | apply Kd.R_alloc | apply Kd.R_drewN | apply Kd.R_drew)); exact HO246.out) rfl hg (Kd.R_ne HO246.out BK249.out (by decide))); have n5_ := Aside0.mk (hbx); have n6_ := Aside0.mk (hbe _ _ (by repeat (first | (with_reducible first | exact HB.out | apply below_alloc | apply pw_below_drewN | apply below_drew1 | refine below_set ?_ GE231.out | refine below_set ?_ GE238.out | refine below_set ?_ GE249.out) | exact HB.out)) GE249.out); clear HO_232001; clear HO_239001; clear BK231; clear BK238; clear HO246; clear BK249; clear HB; have HO_232001 := n0_; have HO_239001 := n1_; have BK231 := n2_; have BK238 := n3_; have HO246 := n4_; have BK249 := n5_; have HB := n6_; clear n0_ n1_ n2_ n3_ n4_ n5_ n6_; (try clear hbx hg hbe)))
              (try simp only [Act.put, List.setIfInBounds_toArray, List.set_cons_zero, List.set_cons_succ])
              go_cut [57] (fun v57 wc => ∃ (kq : Nat) (x57_30 : Bool), v57 = .bool x57_30 ∧ Aside0 (laws_FnExactReadHalf.j1 kq t240 x57_30 t232 t241 t236 = some r) ∧ Aside0 (kq ≤ kj6) ∧ Aside0 (Kd.R k62 62 wc w.heap.size (fun k_ => some k_ ≠ ((.slice Ao15 t233.length co15) : Value).ownBlock ∧ some k_ ≠ ((.slice Ao37 t244.length co37) : Value).ownBlock) (.slice Ao11 t226.length co11) t226) ∧ Aside0 (Kd.R k62 62 wc w.heap.size (fun k_ => some k_ ≠ ((.slice Ao11 t226.length co11) : Value).ownBlock ∧ some k_ ≠ ((.slice Ao37 t244.length co37) : Value).ownBlock) (.slice Ao15 t233.length co15) t241) ∧ Aside0 (Kd.R k62 62 wc w.heap.size (fun k_ => some k_ ≠ ((.slice Ao11 t226.length co11) : Value).ownBlock ∧ some k_ ≠ ((.slice Ao15 t233.length co15) : Value).ownBlock) (.slice Ao37 t244.length co37) t244) ∧ Aside0 (wc.heap[gb231]? = some (.cells (⟨(.bool t225) :: ((.slice Ao11 t226.length co11)) :: Arr.arL .i8 t229⟩ : Array Value) 45 (0, 0))) ∧ Aside0 (wc.heap[gb238]? = some (.cells (⟨(.bool t232) :: ((.slice Ao15 t233.length co15)) :: Arr.arL .i8 t236⟩ : Array Value) 45 (0, 0))) ∧ Aside0 (wc.heap[gb249]? = some (.cells (⟨(.bool t243) :: ((.slice Ao37 t244.length co37)) :: Arr.arL .i8 t247⟩ : Array Value) 45 (0, 0))) ∧ Aside0 (Below w.heap.size w wc))
              case first =>
                have H := HC31.out
                clear HC31
                replace H := Option.bind_eq_some_iff.mp H
                obtain ⟨t250, A400, H⟩ := H
                replace H : (if t250 = true then (laws_FnExactReadHalf.j1 kj6 t240 (t248 != t230) t232 t241 t236) else (laws_FnExactReadHalf.j1 kj6 t240 true t232 t241 t236)) = some r := H
                have A40 := Aside0.mk A400
                clear A400
                by_cases c41 : t250 = true
                · subst c41
                  have H1 : (laws_FnExactReadHalf.j1 kj6 t240 (t248 != t230) t232 t241 t236) = some r := by rw [if_pos rfl] at H; exact H
                  clear H
                  have H := H1
                  clear H1
                  have H' := Aside0.mk H
                  clear H
                  go_wp2_with (first | ((with_reducible refine Arr.gate_load (t := 45) (p := 9) rfl ?_); (try (refine gate_guard (by rfl) ?_; dsimp only)); refine Arr.loadA ?hg (T := 45) (p := 9) ?ho (g := gb249) (off := 0) ?hx (t := 45) (l := ((.bool t243) :: (.slice Ao37 t244.length co37) :: Arr.arL .i8 t247)) (m := ((.bool t243) :: (.slice Ao37 t244.length co37) :: Arr.arL .i8 t247)) (fr := (0, 0)) (show w36.heap[gb249]? = some (.cells (⟨(.bool t243) :: (.slice Ao37 t244.length co37) :: Arr.arL .i8 t247⟩ : Array Value) 45 (0, 0)) from by (with_reducible repeat (first | refine blk_drewN ?_ _ | refine blk_drew ?_ | refine blk_alloc ?_ _)); exact BK249.out) rfl Tryd.underlying45 rfl (n := 18) (by kernel_rfl) (by simp [Arr.arL_length]) ?_; (case hg => rfl); (case ho => rfl); (case hx => first | (go_simp; done) | rfl | (go_simp; rfl))) | ((with_reducible refine Arr.gate_load (t := 45) (p := 3) rfl ?_); (try (refine gate_guard (by rfl) ?_; dsimp only)); refine Arr.loadA ?hg (T := 45) (p := 3) ?ho (g := gb231) (off := 0) ?hx (t := 45) (l := ((.bool t225) :: (.slice Ao11 t226.length co11) :: Arr.arL .i8 t229)) (m := ((.bool t225) :: (.slice Ao11 t226.length co11) :: Arr.arL .i8 t229)) (fr := (0, 0)) (show w36.heap[gb231]? = some (.cells (⟨(.bool t225) :: (.slice Ao11 t226.length co11) :: Arr.arL .i8 t229⟩ : Array Value) 45 (0, 0)) from by (with_reducible repeat (first | refine blk_drewN ?_ _ | refine blk_drew ?_ | refine blk_alloc ?_ _)); exact BK231.out) rfl Tryd.underlying45 rfl (n := 18) (by kernel_rfl) (by simp [Arr.arL_length]) ?_; (case hg => rfl); (case ho => rfl); (case hx => first | (go_simp; done) | rfl | (go_simp; rfl))) | ((with_reducible refine gate_callee (f := 25) rfl ?_); refine goesL_ (some 51) rfl rfl Tryd.func25 (by kernel_rfl) rfl #[.agg (⟨(.bool t243) :: (.slice Ao37 t244.length co37) :: Arr.arL .i8 t247⟩ : Array Value), .agg (⟨(.bool t225) :: (.slice Ao11 t226.length co11) :: Arr.arL .i8 t229⟩ : Array Value)] rfl (by (try simp only [List.map_toArray, List.map_cons, List.map_nil]); first | done | (go_simp; done) | rfl | (simp only [List.length_drop, List.length_take]; rfl)) ?_; (with_reducible refine (laws_eqHalf.calls kj6 t243 _ _ t244 t247 t225 _ _ t226 t229 true _ ?side1 ?side2 ?side3 ?side4 A40.out).mono ?_); (case side1 => repeat (first | exact (Kd.R_reads' HO246.out).2.2 | (with_reducible refine Kd.C_alloc ?_ _) | (with_reducible refine Kd.C_drewN ?_ _) | (with_reducible refine Kd.C_drew ?_))); (case side2 => exact (Kd.R_reads' HO246.out).2.1); (case side3 => repeat (first | exact (Kd.R_reads' HO_232001.out).2.2 | (with_reducible refine Kd.C_alloc ?_ _) | (with_reducible refine Kd.C_drewN ?_ _) | (with_reducible refine Kd.C_drew ?_))); (case side4 => exact (Kd.R_reads' HO_232001.out).2.1); rintro e w42 ⟨rfl, hb⟩; refine ⟨_, rfl, ?_⟩; have n0_ := Aside0.mk (Kd.R_below (by (with_reducible repeat (first | apply Kd.R_alloc | apply Kd.R_drewN | apply Kd.R_drew)); exact HO_232001.out) hb); have n1_ := Aside0.mk (Kd.R_below (by (with_reducible repeat (first | apply Kd.R_alloc | apply Kd.R_drewN | apply Kd.R_drew)); exact HO_239001.out) hb); have n2_ := Aside0.mk (Kd.R_below (by (with_reducible repeat (first | apply Kd.R_alloc | apply Kd.R_drewN | apply Kd.R_drew)); exact HO246.out) hb); have n3_ := Aside0.mk (blk_below (g := gb231) (o := .cells (⟨(.bool t225) :: (.slice Ao11 t226.length co11) :: Arr.arL .i8 t229⟩ : Array Value) 45 (0, 0)) (by (with_reducible repeat (first | refine blk_drewN ?_ _ | refine blk_drew ?_ | refine blk_alloc ?_ _)); exact BK231.out) hb); have n4_ := Aside0.mk (blk_below (g := gb238) (o := .cells (⟨(.bool t232) :: (.slice Ao15 t233.length co15) :: Arr.arL .i8 t236⟩ : Array Value) 45 (0, 0)) (by (with_reducible repeat (first | refine blk_drewN ?_ _ | refine blk_drew ?_ | refine blk_alloc ?_ _)); exact BK238.out) hb); have n5_ := Aside0.mk (blk_below (g := gb249) (o := .cells (⟨(.bool t243) :: (.slice Ao37 t244.length co37) :: Arr.arL .i8 t247⟩ : Array Value) 45 (0, 0)) (by (with_reducible repeat (first | refine blk_drewN ?_ _ | refine blk_drew ?_ | refine blk_alloc ?_ _)); exact BK249.out) hb); have n6_ := Aside0.mk (below_step (by repeat (first | (with_reducible first | exact HB.out | apply below_alloc | apply pw_below_drewN | apply below_drew1 | refine below_set ?_ GE231.out | refine below_set ?_ GE238.out | refine below_set ?_ GE249.out) | exact HB.out)) hb); clear HO_232001; clear HO_239001; clear HO246; clear BK231; clear BK238; clear BK249; clear HB; have HO_232001 := n0_; have HO_239001 := n1_; have HO246 := n2_; have BK231 := n3_; have BK238 := n4_; have BK249 := n5_; have HB := n6_; clear n0_ n1_ n2_ n3_ n4_ n5_ n6_; (try clear hb); (try clear hb2); (try clear hk); (try clear hi)))
                  go_meet
                  case rel => exact ⟨_, ((t248 != t230)), (by first | rfl | (simp; done) | (simp [*]; done)), H', ⟨by have := HJ6.out; first | omega | exact Nat.le_refl _⟩, ⟨by (with_reducible repeat (first | apply Kd.R_alloc | apply Kd.R_drewN | apply Kd.R_drew)); exact HO_232001.out⟩, ⟨by (with_reducible repeat (first | apply Kd.R_alloc | apply Kd.R_drewN | apply Kd.R_drew)); exact HO_239001.out⟩, ⟨by (with_reducible repeat (first | apply Kd.R_alloc | apply Kd.R_drewN | apply Kd.R_drew)); exact Kd.R_mono HO246.out (fun _ hk => ⟨hk.1.2, hk.2⟩)⟩, ⟨by (with_reducible repeat (first | refine blk_drewN ?_ _ | refine blk_drew ?_ | refine blk_alloc ?_ _)); exact BK231.out⟩, ⟨by (with_reducible repeat (first | refine blk_drewN ?_ _ | refine blk_drew ?_ | refine blk_alloc ?_ _)); exact BK238.out⟩, ⟨by (with_reducible repeat (first | refine blk_drewN ?_ _ | refine blk_drew ?_ | refine blk_alloc ?_ _)); exact BK249.out⟩, ⟨by repeat (first | (with_reducible first | exact HB.out | apply below_alloc | apply pw_below_drewN | apply below_drew1 | refine below_set ?_ GE231.out | refine below_set ?_ GE238.out | refine below_set ?_ GE249.out) | exact HB.out)⟩⟩
                · replace c41 := Bool.eq_false_iff.mpr c41
                  subst c41
                  have H1 : (laws_FnExactReadHalf.j1 kj6 t240 true t232 t241 t236) = some r := by rw [if_neg (show ¬ (false = true) by decide)] at H; exact H
                  clear H
                  have H := H1
                  clear H1
                  have H' := Aside0.mk H
                  clear H
                  go_wp2_with (first | ((with_reducible refine Arr.gate_load (t := 45) (p := 9) rfl ?_); (try (refine gate_guard (by rfl) ?_; dsimp only)); refine Arr.loadA ?hg (T := 45) (p := 9) ?ho (g := gb249) (off := 0) ?hx (t := 45) (l := ((.bool t243) :: (.slice Ao37 t244.length co37) :: Arr.arL .i8 t247)) (m := ((.bool t243) :: (.slice Ao37 t244.length co37) :: Arr.arL .i8 t247)) (fr := (0, 0)) (show w36.heap[gb249]? = some (.cells (⟨(.bool t243) :: (.slice Ao37 t244.length co37) :: Arr.arL .i8 t247⟩ : Array Value) 45 (0, 0)) from by (with_reducible repeat (first | refine blk_drewN ?_ _ | refine blk_drew ?_ | refine blk_alloc ?_ _)); exact BK249.out) rfl Tryd.underlying45 rfl (n := 18) (by kernel_rfl) (by simp [Arr.arL_length]) ?_; (case hg => rfl); (case ho => rfl); (case hx => first | (go_simp; done) | rfl | (go_simp; rfl))) | ((with_reducible refine Arr.gate_load (t := 45) (p := 3) rfl ?_); (try (refine gate_guard (by rfl) ?_; dsimp only)); refine Arr.loadA ?hg (T := 45) (p := 3) ?ho (g := gb231) (off := 0) ?hx (t := 45) (l := ((.bool t225) :: (.slice Ao11 t226.length co11) :: Arr.arL .i8 t229)) (m := ((.bool t225) :: (.slice Ao11 t226.length co11) :: Arr.arL .i8 t229)) (fr := (0, 0)) (show w36.heap[gb231]? = some (.cells (⟨(.bool t225) :: (.slice Ao11 t226.length co11) :: Arr.arL .i8 t229⟩ : Array Value) 45 (0, 0)) from by (with_reducible repeat (first | refine blk_drewN ?_ _ | refine blk_drew ?_ | refine blk_alloc ?_ _)); exact BK231.out) rfl Tryd.underlying45 rfl (n := 18) (by kernel_rfl) (by simp [Arr.arL_length]) ?_; (case hg => rfl); (case ho => rfl); (case hx => first | (go_simp; done) | rfl | (go_simp; rfl))) | ((with_reducible refine gate_callee (f := 25) rfl ?_); refine goesL_ (some 51) rfl rfl Tryd.func25 (by kernel_rfl) rfl #[.agg (⟨(.bool t243) :: (.slice Ao37 t244.length co37) :: Arr.arL .i8 t247⟩ : Array Value), .agg (⟨(.bool t225) :: (.slice Ao11 t226.length co11) :: Arr.arL .i8 t229⟩ : Array Value)] rfl (by (try simp only [List.map_toArray, List.map_cons, List.map_nil]); first | done | (go_simp; done) | rfl | (simp only [List.length_drop, List.length_take]; rfl)) ?_; (with_reducible refine (laws_eqHalf.calls kj6 t243 _ _ t244 t247 t225 _ _ t226 t229 false _ ?side1 ?side2 ?side3 ?side4 A40.out).mono ?_); (case side1 => repeat (first | exact (Kd.R_reads' HO246.out).2.2 | (with_reducible refine Kd.C_alloc ?_ _) | (with_reducible refine Kd.C_drewN ?_ _) | (with_reducible refine Kd.C_drew ?_))); (case side2 => exact (Kd.R_reads' HO246.out).2.1); (case side3 => repeat (first | exact (Kd.R_reads' HO_232001.out).2.2 | (with_reducible refine Kd.C_alloc ?_ _) | (with_reducible refine Kd.C_drewN ?_ _) | (with_reducible refine Kd.C_drew ?_))); (case side4 => exact (Kd.R_reads' HO_232001.out).2.1); rintro e w43 ⟨rfl, hb⟩; refine ⟨_, rfl, ?_⟩; have n0_ := Aside0.mk (Kd.R_below (by (with_reducible repeat (first | apply Kd.R_alloc | apply Kd.R_drewN | apply Kd.R_drew)); exact HO_232001.out) hb); have n1_ := Aside0.mk (Kd.R_below (by (with_reducible repeat (first | apply Kd.R_alloc | apply Kd.R_drewN | apply Kd.R_drew)); exact HO_239001.out) hb); have n2_ := Aside0.mk (Kd.R_below (by (with_reducible repeat (first | apply Kd.R_alloc | apply Kd.R_drewN | apply Kd.R_drew)); exact HO246.out) hb); have n3_ := Aside0.mk (blk_below (g := gb231) (o := .cells (⟨(.bool t225) :: (.slice Ao11 t226.length co11) :: Arr.arL .i8 t229⟩ : Array Value) 45 (0, 0)) (by (with_reducible repeat (first | refine blk_drewN ?_ _ | refine blk_drew ?_ | refine blk_alloc ?_ _)); exact BK231.out) hb); have n4_ := Aside0.mk (blk_below (g := gb238) (o := .cells (⟨(.bool t232) :: (.slice Ao15 t233.length co15) :: Arr.arL .i8 t236⟩ : Array Value) 45 (0, 0)) (by (with_reducible repeat (first | refine blk_drewN ?_ _ | refine blk_drew ?_ | refine blk_alloc ?_ _)); exact BK238.out) hb); have n5_ := Aside0.mk (blk_below (g := gb249) (o := .cells (⟨(.bool t243) :: (.slice Ao37 t244.length co37) :: Arr.arL .i8 t247⟩ : Array Value) 45 (0, 0)) (by (with_reducible repeat (first | refine blk_drewN ?_ _ | refine blk_drew ?_ | refine blk_alloc ?_ _)); exact BK249.out) hb); have n6_ := Aside0.mk (below_step (by repeat (first | (with_reducible first | exact HB.out | apply below_alloc | apply pw_below_drewN | apply below_drew1 | refine below_set ?_ GE231.out | refine below_set ?_ GE238.out | refine below_set ?_ GE249.out) | exact HB.out)) hb); clear HO_232001; clear HO_239001; clear HO246; clear BK231; clear BK238; clear BK249; clear HB; have HO_232001 := n0_; have HO_239001 := n1_; have HO246 := n2_; have BK231 := n3_; have BK238 := n4_; have BK249 := n5_; have HB := n6_; clear n0_ n1_ n2_ n3_ n4_ n5_ n6_; (try clear hb); (try clear hb2); (try clear hk); (try clear hi)))
                  go_meet
                  case rel => exact ⟨_, (true), (by first | rfl | (simp; done) | (simp [*]; done)), H', ⟨by have := HJ6.out; first | omega | exact Nat.le_refl _⟩, ⟨by (with_reducible repeat (first | apply Kd.R_alloc | apply Kd.R_drewN | apply Kd.R_drew)); exact HO_232001.out⟩, ⟨by (with_reducible repeat (first | apply Kd.R_alloc | apply Kd.R_drewN | apply Kd.R_drew)); exact HO_239001.out⟩, ⟨by (with_reducible repeat (first | apply Kd.R_alloc | apply Kd.R_drewN | apply Kd.R_drew)); exact Kd.R_mono HO246.out (fun _ hk => ⟨hk.1.2, hk.2⟩)⟩, ⟨by (with_reducible repeat (first | refine blk_drewN ?_ _ | refine blk_drew ?_ | refine blk_alloc ?_ _)); exact BK231.out⟩, ⟨by (with_reducible repeat (first | refine blk_drewN ?_ _ | refine blk_drew ?_ | refine blk_alloc ?_ _)); exact BK238.out⟩, ⟨by (with_reducible repeat (first | refine blk_drewN ?_ _ | refine blk_drew ?_ | refine blk_alloc ?_ _)); exact BK249.out⟩, ⟨by repeat (first | (with_reducible first | exact HB.out | apply below_alloc | apply pw_below_drewN | apply below_drew1 | refine below_set ?_ GE231.out | refine below_set ?_ GE238.out | refine below_set ?_ GE249.out) | exact HB.out)⟩⟩
              case rest =>
                clear HC31
                try clear c1
                try clear c2
                try clear c2b0
                try clear c2b1
                try clear p2
                try clear c4
                try clear c7
                try clear c19
                try clear c22
                try clear c25
                try clear c26
                try clear c27
                try clear c27b0
                try clear c28
                try clear c28b0
                try clear c28b1
                try clear c29
                try clear c41
                try clear p2
                obtain ⟨kq, x57_30, rfl, HA, HJ30, HO_232001, HO_239001, HO_250001, BK231, BK238, BK249, HB⟩ := hcut
                have hl239001_30 := (Kd.R_reads' HO_239001.out).1
                rw [hl239001_30] at HO_239001
                (try simp only [hl239001_30])
                (try simp only [hl239001_30] at BK231)
                (try simp only [hl239001_30] at BK238)
                (try simp only [hl239001_30] at BK249)
                (try simp only [hl239001_30] at HO_232001)
                (try simp only [hl239001_30] at HO_250001)
                cases kq with
                | zero => exact absurd HA.out (by simp [laws_FnExactReadHalf.j1])
                | succ kj30 =>
                  have H := HA.out
                  clear HA
                  simp only [laws_FnExactReadHalf.j1] at H
                  by_cases c44 : x57_30 = true
                  · subst c44
                    have H1 : (some false) = some r := by rw [if_pos rfl] at H; exact H
                    clear H
                    have H := H1
                    clear H1
                    obtain rfl := Option.some.inj H
                    cases ht
                  · replace c44 := Bool.eq_false_iff.mpr c44
                    subst c44
                    have H1 : ((laws_heldHalf.f kj30 t232 t241 t236 1).bind fun t251 => (if t251 < 0 then (some false) else (if t251 = t240 then (some true) else (some false)))) = some r := by rw [if_neg (show ¬ (false = true) by decide)] at H; exact H
                    clear H
                    have H := H1
                    clear H1
                    replace H := Option.bind_eq_some_iff.mp H
                    obtain ⟨t251, A460, H⟩ := H
                    replace H : (if t251 < 0 then (some false) else (if t251 = t240 then (some true) else (some false))) = some r := H
                    have A46 := Aside0.mk A460
                    clear A460
                    by_cases c47 : t251 < 0
                    · rw [if_pos c47] at H
                      have c47b0 : decide (t251 < 0) = true := decide_eq_true c47
                      clear c47
                      obtain rfl := Option.some.inj H
                      cases ht
                    · rw [if_neg c47] at H
                      have c47b0 : decide (t251 < 0) = false := decide_eq_false c47
                      clear c47
                      by_cases c48 : t251 = t240
                      · rw [if_pos c48] at H
                        have c48b0 : (t251 == t240) = true := beq_iff_eq.mpr c48
                        have c48b1 : (t251 != t240) = false := bne_eq_false_iff_eq.mpr c48
                        clear c48
                        obtain rfl := Option.some.inj H
                        go_wp2_with (first | ((with_reducible refine Arr.gate_load (t := 45) (p := 5) rfl ?_); (try (refine gate_guard (by rfl) ?_; dsimp only)); refine Arr.loadA ?hg (T := 45) (p := 5) ?ho (g := gb238) (off := 0) ?hx (t := 45) (l := ((.bool t232) :: (.slice Ao15 t241.length co15) :: Arr.arL .i8 t236)) (m := ((.bool t232) :: (.slice Ao15 t241.length co15) :: Arr.arL .i8 t236)) (fr := (0, 0)) (show wc.heap[gb238]? = some (.cells (⟨(.bool t232) :: (.slice Ao15 t241.length co15) :: Arr.arL .i8 t236⟩ : Array Value) 45 (0, 0)) from by (with_reducible repeat (first | refine blk_drewN ?_ _ | refine blk_drew ?_ | refine blk_alloc ?_ _)); exact BK238.out) rfl Tryd.underlying45 rfl (n := 18) (by kernel_rfl) (by simp [Arr.arL_length]) ?_; (case hg => rfl); (case ho => rfl); (case hx => first | (go_simp; done) | rfl | (go_simp; rfl))) | ((with_reducible refine gate_callee (f := 29) rfl ?_); refine goesL_ (some 60) rfl rfl Tryd.func29 (by kernel_rfl) rfl #[.agg (⟨(.bool t232) :: (.slice Ao15 t241.length co15) :: Arr.arL .i8 t236⟩ : Array Value), .int .i64 1] rfl (by (try simp only [List.map_toArray, List.map_cons, List.map_nil]); first | done | (go_simp; done) | rfl | (simp only [List.length_drop, List.length_take]; rfl)) ?_; (with_reducible refine (laws_heldHalf.calls kj30 t232 _ _ t241 t236 1 t251 _ ?side1 ?side2 A46.out).mono ?_); (case side1 => repeat (first | exact (Kd.R_reads' HO_239001.out).2.2 | (with_reducible refine Kd.C_alloc ?_ _) | (with_reducible refine Kd.C_drewN ?_ _) | (with_reducible refine Kd.C_drew ?_))); (case side2 => exact (Kd.R_reads' HO_239001.out).2.1); rintro e w49 ⟨rfl, hb⟩; refine ⟨_, rfl, ?_⟩; have n0_ := Aside0.mk (Kd.R_below (by (with_reducible repeat (first | apply Kd.R_alloc | apply Kd.R_drewN | apply Kd.R_drew)); exact HO_232001.out) hb); have n1_ := Aside0.mk (Kd.R_below (by (with_reducible repeat (first | apply Kd.R_alloc | apply Kd.R_drewN | apply Kd.R_drew)); exact HO_239001.out) hb); have n2_ := Aside0.mk (Kd.R_below (by (with_reducible repeat (first | apply Kd.R_alloc | apply Kd.R_drewN | apply Kd.R_drew)); exact HO_250001.out) hb); have n3_ := Aside0.mk (blk_below (g := gb231) (o := .cells (⟨(.bool t225) :: (.slice Ao11 t226.length co11) :: Arr.arL .i8 t229⟩ : Array Value) 45 (0, 0)) (by (with_reducible repeat (first | refine blk_drewN ?_ _ | refine blk_drew ?_ | refine blk_alloc ?_ _)); exact BK231.out) hb); have n4_ := Aside0.mk (blk_below (g := gb238) (o := .cells (⟨(.bool t232) :: (.slice Ao15 t241.length co15) :: Arr.arL .i8 t236⟩ : Array Value) 45 (0, 0)) (by (with_reducible repeat (first | refine blk_drewN ?_ _ | refine blk_drew ?_ | refine blk_alloc ?_ _)); exact BK238.out) hb); have n5_ := Aside0.mk (blk_below (g := gb249) (o := .cells (⟨(.bool t243) :: (.slice Ao37 t244.length co37) :: Arr.arL .i8 t247⟩ : Array Value) 45 (0, 0)) (by (with_reducible repeat (first | refine blk_drewN ?_ _ | refine blk_drew ?_ | refine blk_alloc ?_ _)); exact BK249.out) hb); have n6_ := Aside0.mk (below_step (by repeat (first | (with_reducible first | exact HB.out | apply below_alloc | apply pw_below_drewN | apply below_drew1 | refine below_set ?_ GE231.out | refine below_set ?_ GE238.out | refine below_set ?_ GE249.out) | exact HB.out)) hb); clear HO_232001; clear HO_239001; clear HO_250001; clear BK231; clear BK238; clear BK249; clear HB; have HO_232001 := n0_; have HO_239001 := n1_; have HO_250001 := n2_; have BK231 := n3_; have BK238 := n4_; have BK249 := n5_; have HB := n6_; clear n0_ n1_ n2_ n3_ n4_ n5_ n6_; (try clear hb); (try clear hb2); (try clear hk); (try clear hi)))
                        go_ret
                        exact ⟨by first | rfl | (simp [errW_none, errW_some] <;> rfl) | (simp [*, errW_none, errW_some] <;> rfl), by repeat (first | (with_reducible first | exact HB.out | apply below_alloc | apply pw_below_drewN | apply below_drew1 | refine below_set ?_ GE231.out | refine below_set ?_ GE238.out | refine below_set ?_ GE249.out) | exact HB.out)⟩
                      · rw [if_neg c48] at H
                        have c48b0 : (t251 == t240) = false := beq_eq_false_iff_ne.mpr c48
                        have c48b1 : (t251 != t240) = true := bne_iff_ne.mpr c48
                        obtain rfl := Option.some.inj H
                        cases ht
            · rw [if_neg c28] at H
              have c28b0 : (t242 == t240) = false := beq_eq_false_iff_ne.mpr c28
              have c28b1 : (t242 != t240) = true := bne_iff_ne.mpr c28
              obtain rfl := Option.some.inj H
              cases ht

end Go.Proofs.YtfjmljgbdejghaaDoor.MReadHalf
