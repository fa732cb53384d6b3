-- by a program of this session, for this claim
import Derived.Test.YtcghnnhhgngddaaDoorMSettledx0
namespace Go.Proofs.YtcghnnhhgngddaaDoor.MSettled
open Go.RowKit Go.Proofs.YtcghnnhhgngddaaDoorW.PrintWords Go.Proofs.YtcghnnhhgngddaaDoorW.PrintLast Go.Proofs.YtcghnnhhgngddaaDoorW.PrintMore
attribute [local go_sem] max2_int min2_int max_two min_two max_three min_three max_four min_four   -- for this text's walks alone
set_option linter.unusedVariables false
set_option linter.unusedSimpArgs false

/-! ### spec_l00In: function 41 -/
def spec_l00In.f (a0 : Int) (a1 : Int) (a2 : Int) : Option (Bool) := if a0 ≥ a1 then (some (decide (a0 ≤ a2))) else (some false)
set_option maxHeartbeats 8000000 in
set_option maxRecDepth 100000 in
theorem spec_l00In.calls (a0 : Int) (a1 : Int) (a2 : Int) (r : Bool) (w : World) (h : spec_l00In.f a0 a1 a2 = some r) :
    Calls Tryd.prog 41 #[.int .i64 a0, .int .i64 a1, .int .i64 a2] w fun e w' => e = .returned (.bool r) ∧ Drawn0 w w' := by
  have H : (if a0 ≥ a1 then (some (decide (a0 ≤ a2))) else (some false)) = some r := h; clear h; by_cases c4 : a0 ≥ a1
  · rw [if_pos c4] at H; have c4b0 : decide (a1 ≤ a0) = true := decide_eq_true c4; clear c4; obtain rfl := Option.some.inj H; go_enter Tryd.func41, Tryd.ntmps41; go_wp2; go_ret; exact ⟨z3_, z11_⟩
  · rw [if_neg c4] at H; have c4b0 : decide (a1 ≤ a0) = false := decide_eq_false c4; clear c4; obtain rfl := Option.some.inj H; go_enter Tryd.func41, Tryd.ntmps41; go_wp2; go_ret; exact ⟨z3_, z11_⟩

/-! ### spec_l02Zero: function 22 -/
def spec_l02Zero.l0 : Nat → List Int → Int → Int → Option (Bool)
  | 0, _, _, _ => none
  | k + 1, x0, x3, x4 => if x4 < (x0.length : Int) then (if 0 ≤ x4 then ((spec_l00In.f (rd x0 x4) (-100000000) 100000000).bind fun t103 => (if t103 = true then (spec_l02Zero.l0 k x0 (wrap64 (x3 + (rd x0 x4))) (wrap64 (x4 + 1))) else (some false))) else (none)) else (some (x3 == 0))
def spec_l02Zero.f (k : Nat) (l0 : List Int) : Option (Bool) := (spec_l00In.f (l0.length : Int) 1 16).bind fun t101 => (if t101 = true then (spec_l02Zero.l0 k l0 0 0) else (some false))
theorem spec_l02Zero.mono_l : ∀ k, (∀ y0 y1 y2, LeO (spec_l02Zero.l0 k y0 y1 y2) (spec_l02Zero.l0 (k + 1) y0 y1 y2))
  | 0 => fun _ _ _ r h => by simp [spec_l02Zero.l0] at h
  | k + 1 => by
    have ih0 := spec_l02Zero.mono_l k
    · intro y0 y1 y2
      unfold spec_l02Zero.l0
      with_reducible repeat' first | exact ih0 _ _ _ | exact LeO.refl _ | exact LeO.none _ | refine LeO.ite ?_ ?_ | refine LeO.bind ?_ (fun _ => ?_)
theorem spec_l02Zero.mono : ∀ a0 k, LeO (spec_l02Zero.f k a0) (spec_l02Zero.f (k + 1) a0) := by
  intro a0 k; have ih0 := spec_l02Zero.mono_l k; unfold spec_l02Zero.f
  with_reducible repeat' first | exact ih0 _ _ _ | exact LeO.refl _ | exact LeO.none _ | refine LeO.ite ?_ ?_ | refine LeO.bind ?_ (fun _ => ?_)
set_option maxHeartbeats 8000000 in
set_option maxRecDepth 100000 in
theorem spec_l02Zero.calls (k : Nat) (A0 : Option Addr) (c0 : Nat) (l0 : List Int) (r : Bool) (w : World) (hr0 : Kd.C (Kd.int .i64) w A0 l0.length l0) (hc0 : l0.length ≤ c0) (h : spec_l02Zero.f k l0 = some r) :
    Calls Tryd.prog 22 #[.slice A0 l0.length c0] w fun e w' => e = .returned (.bool r) ∧ Drawn0 w w' := by
  have HR0 := Aside0.mk hr0; have HC0 := Aside0.mk hc0; clear hr0 hc0; have H : ((spec_l00In.f (l0.length : Int) 1 16).bind fun t101 => (if t101 = true then (spec_l02Zero.l0 k l0 0 0) else (some false))) = some r := h; clear h; replace H := Option.bind_eq_some_iff.mp H; obtain ⟨t101, A20, H⟩ := H;  have A2 := Aside0.mk A20; clear A20; by_cases c3 : t101 = true
  · subst c3; (have H1 : (spec_l02Zero.l0 k l0 0 0) = some r := z34_); clear H; have H := H1; clear H1; have H' := Aside0.mk H; clear H; go_enter Tryd.func22, Tryd.ntmps22; go_wp2_with (first | ((with_reducible refine gate_callee (f := 41) rfl ?_); refine goesL_ (some 7) rfl rfl Tryd.func41 z7_ rfl #[.int .i64 (l0.length : Int), .int .i64 1, .int .i64 16] rfl z2_ ?_; (with_reducible refine (spec_l00In.calls (l0.length : Int) 1 16 true _ A2.out).mono ?_); rintro e w' ⟨rfl, ⟨nd, rfl⟩⟩; refine ⟨_, rfl, ?_⟩)); go_loopg [3, 4] k (fun kq v3 v4 w' => ∃ (x3_1 : Int) (x4_1 : Int), v3 = .int .i64 x3_1 ∧ v4 = .int .i64 x4_1 ∧ Aside0 (spec_l02Zero.l0 kq l0 x3_1 x4_1 = some r) ∧ Aside0 (kq ≤ k) ∧ Drawn0 w w')
    case atStart => exact ⟨(0), (0), z3_, z3_, H', ⟨Nat.le_refl _⟩, z11_⟩
    case round =>
      clear H'; (try clear c2); (try clear p2); (try clear c3); obtain ⟨x3_1, x4_1, rfl, rfl, HA, HK1, ⟨m1, rfl⟩⟩ := hrel
      cases gk with
      | zero => exact absurd HA.out (by simp [spec_l02Zero.l0])
      | succ k1 =>
        have H := HA.out; clear HA; simp only [spec_l02Zero.l0] at H; by_cases c4 : x4_1 < (l0.length : Int)
        · rw [if_pos c4] at H; have c4b0 : decide (x4_1 < (l0.length : Int)) = true := decide_eq_true c4; clear c4; by_cases c5 : 0 ≤ x4_1
          · rw [if_pos c5] at H; have c5b0 : decide (0 ≤ x4_1) = true := decide_eq_true c5; clear c5; replace H := Option.bind_eq_some_iff.mp H; obtain ⟨t103, A60, H⟩ := H;  have A6 := Aside0.mk A60; clear A60; by_cases c7 : t103 = true
            · subst c7; (have H1 : (spec_l02Zero.l0 k1 l0 (wrap64 (x3_1 + (rd l0 x4_1))) (wrap64 (x4_1 + 1))) = some r := z34_); clear H; have H := H1; clear H1; have H' := Aside0.mk H; clear H; have p102 : 0 ≤ (x4_1 : Int) := of_decide_eq_true z1_; have q102 : x4_1 < (l0.length : Int) := of_decide_eq_true z1_; obtain ⟨ad102, e102, hx102_0⟩ := Kd.at_int HR0.out x4_1 p102 q102; cases e102; replace p102 := eq_true p102; replace q102 := eq_true q102; go_wp2_with (first | ((with_reducible refine gate_callee (f := 41) rfl ?_); refine goesL_ (some 19) rfl rfl Tryd.func41 z7_ rfl #[.int .i64 (rd l0 x4_1), .int .i64 (-100000000), .int .i64 100000000] rfl z2_ ?_; (with_reducible refine (spec_l00In.calls (rd l0 x4_1) (-100000000) 100000000 true _ A6.out).mono ?_); rintro e w' ⟨rfl, ⟨nd, rfl⟩⟩; refine ⟨_, rfl, ?_⟩; have p104 : 0 ≤ (x4_1 : Int) := of_decide_eq_true z1_; have q104 : x4_1 < (l0.length : Int) := of_decide_eq_true z1_; obtain ⟨ad104, e104, hx104_0⟩ := Kd.at_int HR0.out x4_1 p104 q104; obtain rfl : ad102 = ad104 := (by injection e104); replace p104 := eq_true p104; replace q104 := eq_true q104)); go_roundg k1
              case measure => have := HK1.out; omega
              case rel => exact ⟨(wrap64 (x3_1 + (rd l0 x4_1))), (wrap64 (x4_1 + 1)), z3_, z3_, H', ⟨z47_⟩, z11_⟩
            · replace c7 := Bool.eq_false_iff.mpr c7; subst c7; (have H1 : (some false) = some r := z19_); clear H; have H := H1; clear H1; obtain rfl := Option.some.inj H; have p102 : 0 ≤ (x4_1 : Int) := of_decide_eq_true z1_; have q102 : x4_1 < (l0.length : Int) := of_decide_eq_true z1_; obtain ⟨ad102, e102, hx102_0⟩ := Kd.at_int HR0.out x4_1 p102 q102; cases e102; replace p102 := eq_true p102; replace q102 := eq_true q102; go_wp2_with (first | ((with_reducible refine gate_callee (f := 41) rfl ?_); refine goesL_ (some 19) rfl rfl Tryd.func41 z7_ rfl #[.int .i64 (rd l0 x4_1), .int .i64 (-100000000), .int .i64 100000000] rfl z2_ ?_; (with_reducible refine (spec_l00In.calls (rd l0 x4_1) (-100000000) 100000000 false _ A6.out).mono ?_); rintro e w' ⟨rfl, ⟨nd, rfl⟩⟩; refine ⟨_, rfl, ?_⟩)); go_ret; exact ⟨z3_, z11_⟩
          · rw [if_neg c5] at H; exact absurd H (by simp)
        · rw [if_neg c4] at H; have c4b0 : decide (x4_1 < (l0.length : Int)) = false := decide_eq_false c4; clear c4; obtain rfl := Option.some.inj H; go_wp2; go_ret; exact ⟨z3_, z11_⟩
  · replace c3 := Bool.eq_false_iff.mpr c3; subst c3; (have H1 : (some false) = some r := z19_); clear H; have H := H1; clear H1; obtain rfl := Option.some.inj H; go_enter Tryd.func22, Tryd.ntmps22; go_wp2_with (first | ((with_reducible refine gate_callee (f := 41) rfl ?_); refine goesL_ (some 7) rfl rfl Tryd.func41 z7_ rfl #[.int .i64 (l0.length : Int), .int .i64 1, .int .i64 16] rfl z2_ ?_; (with_reducible refine (spec_l00In.calls (l0.length : Int) 1 16 false _ A2.out).mono ?_); rintro e w' ⟨rfl, ⟨nd, rfl⟩⟩; refine ⟨_, rfl, ?_⟩)); go_ret; exact ⟨z3_, z11_⟩

/-! ### spec_l02Open: function 23 -/
def spec_l02Open.l0 : Nat → List Int → List Int → Int → Option (List Int)
  | 0, _, _, _ => none
  | k + 1, x0, x3, x4 => if x4 < (x0.length : Int) then (if 0 ≤ x4 then (if (rd x0 x4) = 0 then (spec_l02Open.l0 k x0 x3 (wrap64 (x4 + 1))) else (if x3.length < 17592186044416 then (spec_l02Open.l0 k x0 (x3 ++ [x4]) (wrap64 (x4 + 1))) else (none))) else (none)) else (some x3)
def spec_l02Open.f (k : Nat) (l0 : List Int) : Option (List Int) := spec_l02Open.l0 k l0 (([] : List Int)) 0
theorem spec_l02Open.mono_l : ∀ k, (∀ y0 y1 y2, LeO (spec_l02Open.l0 k y0 y1 y2) (spec_l02Open.l0 (k + 1) y0 y1 y2))
  | 0 => fun _ _ _ r h => by simp [spec_l02Open.l0] at h
  | k + 1 => by
    have ih0 := spec_l02Open.mono_l k
    · intro y0 y1 y2
      unfold spec_l02Open.l0
      with_reducible repeat' first | exact ih0 _ _ _ | exact LeO.refl _ | exact LeO.none _ | refine LeO.ite ?_ ?_ | refine LeO.bind ?_ (fun _ => ?_)
theorem spec_l02Open.mono : ∀ a0 k, LeO (spec_l02Open.f k a0) (spec_l02Open.f (k + 1) a0) := by
  intro a0 k; have ih0 := spec_l02Open.mono_l k; unfold spec_l02Open.f
  with_reducible repeat' first | exact ih0 _ _ _ | exact LeO.refl _ | exact LeO.none _ | refine LeO.ite ?_ ?_ | refine LeO.bind ?_ (fun _ => ?_)
set_option maxHeartbeats 8000000 in
set_option maxRecDepth 100000 in
theorem spec_l02Open.calls (k : Nat) (A0 : Option Addr) (c0 : Nat) (l0 : List Int) (r : List Int) (w : World) (hr0 : Kd.C (Kd.int .i64) w A0 l0.length l0) (hc0 : l0.length ≤ c0) (h : spec_l02Open.f k l0 = some r) :
    Calls Tryd.prog 23 #[.slice A0 l0.length c0] w fun e w' => ∃ v0_ : Value, e = .returned (v0_) ∧ Kd.R (Kd.int .i64) 2 w' w.heap.size (fun _ => True) v0_ r ∧ Below w.heap.size w w' := by
  have HR0 := Aside0.mk hr0; have HC0 := Aside0.mk hc0; clear hr0 hc0; have HB := Aside0.mk (Below.refl w.heap.size w); have H : (spec_l02Open.l0 k l0 (([] : List Int)) 0) = some r := h; clear h; obtain ⟨y105, hy105⟩ : ∃ y_ : List Int, y_ = (([] : List Int)) := ⟨_, rfl⟩; (replace H : (spec_l02Open.l0 k l0 y105 0) = some r := by first | (rw [hy105]; with_reducible exact H) | (have H2_ := (Option.bind_some _ _).symm.trans H; rw [hy105]; with_reducible exact H2_) | (have H2_ := (Option.bind_some _ _).symm.trans H; with_reducible exact H2_) | with_reducible exact H | (rw [hy105]; exact H) | exact H); have Ny105 := Aside0.mk hy105; clear hy105; have H' := Aside0.mk H; clear H; go_enter Tryd.func23, Tryd.ntmps23; go_wp2_with (first | ((with_reducible refine gate_dst (N := 5) rfl ?_); refine Kd.R_lit (Kd.int .i64) _ 2 ?hg (N := 5) ?hd (xs := ([] : List Int)) (inner := []) (ok := fun _ => True) (okp := fun _ => True) ?hr ?hp (fun _ hk => hk) trivial (Below.refl _ _) (Nat.le_refl _) (by simp) ?_; (case hd => rfl); (case hg => rfl); (case hr => first | (go_simp; done) | (go_simp; rfl)); (case hp => exact (Reps.none _ _)); intro v106 w2 ho3 hb hg_ hnew_; clear hg_ hnew_; (first | rw [← Ny105.out] at ho3 | (simp only [Int.reduceToNat] at ho3; rw [← Ny105.out] at ho3)); have HO107 := Aside0.mk (Kd.R_lower ho3 (below_size z0_)); replace HB := Aside0.mk (below_step z0_ hb); clear hb ho3)); go_loopg [3, 4] k (fun kq v3 v4 w' => ∃ (x3_1 : List Int) (x4_1 : Int), v4 = .int .i64 x4_1 ∧ Aside0 (spec_l02Open.l0 kq l0 x3_1 x4_1 = some r) ∧ Aside0 (kq ≤ k) ∧ Aside0 (Kd.R (Kd.int .i64) 2 w' w.heap.size (fun _ => True) v3 x3_1) ∧ Aside0 (Below w.heap.size w w'))
  case atStart => exact ⟨(y105), (0), z3_, H', ⟨Nat.le_refl _⟩, ⟨by (with_reducible repeat (first | apply Kd.R_alloc | apply Kd.R_drewN | apply Kd.R_drew)); exact HO107.out⟩, ⟨z0_⟩⟩
  case round =>
    clear H'; (try clear c2); (try clear p2); obtain ⟨x3_1, x4_1, rfl, HA, HK1, HO_3, HB⟩ := hrel
    cases gk with
    | zero => exact absurd HA.out (by simp [spec_l02Open.l0])
    | succ k1 =>
      have H := HA.out; clear HA; simp only [spec_l02Open.l0] at H; by_cases c4 : x4_1 < (l0.length : Int)
      · rw [if_pos c4] at H; have c4b0 : decide (x4_1 < (l0.length : Int)) = true := decide_eq_true c4; clear c4; by_cases c5 : 0 ≤ x4_1
        · rw [if_pos c5] at H; have c5b0 : decide (0 ≤ x4_1) = true := decide_eq_true c5; clear c5; by_cases c6 : (rd l0 x4_1) = 0
          · rw [if_pos c6] at H; have c6b0 : ((rd l0 x4_1) == 0) = true := beq_iff_eq.mpr c6; have c6b1 : ((rd l0 x4_1) != 0) = false := bne_eq_false_iff_eq.mpr c6; clear c6; have H' := Aside0.mk H; clear H; have p108 : 0 ≤ (x4_1 : Int) := of_decide_eq_true z1_; have q108 : x4_1 < (l0.length : Int) := of_decide_eq_true z1_; obtain ⟨ad108, e108, hx108_0⟩ := Kd.at_int HR0.out x4_1 p108 q108; cases e108; (try replace hx108_0 := (HB.out.cell (World.block_lt_of_cell? w _ hx108_0)).trans hx108_0); replace p108 := eq_true p108; replace q108 := eq_true q108; go_wp2; go_roundg k1
            case measure => have := HK1.out; omega
            case rel => exact ⟨(x3_1), (wrap64 (x4_1 + 1)), z3_, H', ⟨z47_⟩, ⟨z5_⟩, ⟨z0_⟩⟩
          · rw [if_neg c6] at H; have c6b0 : ((rd l0 x4_1) == 0) = false := beq_eq_false_iff_ne.mpr c6; have c6b1 : ((rd l0 x4_1) != 0) = true := bne_iff_ne.mpr c6; by_cases c7 : x3_1.length < 17592186044416
            · rw [if_pos c7] at H; have LMc7 := Aside0.mk c7; clear c7; obtain ⟨y109, hy109⟩ : ∃ y_ : List Int, y_ = (x3_1 ++ [x4_1]) := ⟨_, rfl⟩; (replace H : (spec_l02Open.l0 k1 l0 y109 (wrap64 (x4_1 + 1))) = some r := by first | (rw [hy109]; with_reducible exact H) | (have H2_ := (Option.bind_some _ _).symm.trans H; rw [hy109]; with_reducible exact H2_) | (have H2_ := (Option.bind_some _ _).symm.trans H; with_reducible exact H2_) | with_reducible exact H | (rw [hy109]; exact H) | exact H); have Ny109 := Aside0.mk hy109; clear hy109; have H' := Aside0.mk H; clear H; have p108 : 0 ≤ (x4_1 : Int) := of_decide_eq_true z1_; have q108 : x4_1 < (l0.length : Int) := of_decide_eq_true z1_; obtain ⟨ad108, e108, hx108_0⟩ := Kd.at_int HR0.out x4_1 p108 q108; cases e108; (try replace hx108_0 := (HB.out.cell (World.block_lt_of_cell? w _ hx108_0)).trans hx108_0); replace p108 := eq_true p108; replace q108 := eq_true q108; go_wp2_with (first | ((with_reducible refine gate_builtin (b := .append) (xs := #[.tmp 17, .tmp 19]) rfl ?_); at_builtin; refine Kd.R_append (Kd.int .i64) (w0 := w) w.heap.size rfl (.tmp 17) (.tmp 19) 22 2 (.int .i64 0) 8 rfl Tryd.underlying22 info2 rfl (by decide) (by omega) u3 x3_1 x4_1 [.int .i64 x4_1] (fun _ => True) (fun _ => False) rfl rfl ?aP (fun _ hk => hk.elim) ?aF ?aO ?aB ?aS ?aL ?_; (case aP => exact rfl); (case aB => exact z0_); (case aF => exact (fun _ _ => trivial)); (case aO => exact z5_); (case aS => exact (below_size z0_)); (case aL => have := LMc7.out; omega); intro v110 w8 ho hb hg hat; rw [← Ny109.out] at ho; replace HB := Aside0.mk (hb); have HO111 := Aside0.mk (ho); clear HO_3; clear ho hb hg hat)); go_roundg k1
              case measure => have := HK1.out; omega
              case rel => exact ⟨(y109), (wrap64 (x4_1 + 1)), z3_, H', ⟨z47_⟩, ⟨by (with_reducible repeat (first | apply Kd.R_alloc | apply Kd.R_drewN | apply Kd.R_drew)); exact HO111.out⟩, ⟨z0_⟩⟩
            · rw [if_neg c7] at H; exact absurd H (by simp)
        · rw [if_neg c5] at H; exact absurd H (by simp)
      · rw [if_neg c4] at H; have c4b0 : decide (x4_1 < (l0.length : Int)) = false := decide_eq_false c4; clear c4; obtain rfl := Option.some.inj H; go_wp2; go_ret; exact ⟨_, z6_, z5_, z0_⟩

/-! ### spec_l00Max: function 42 -/
def spec_l00Max.f (a0 : Int) (a1 : Int) : Option (Int) := if a0 > a1 then (some a0) else (some a1)
set_option maxHeartbeats 8000000 in
set_option maxRecDepth 100000 in
theorem spec_l00Max.calls (a0 : Int) (a1 : Int) (r : Int) (w : World) (h : spec_l00Max.f a0 a1 = some r) :
    Calls Tryd.prog 42 #[.int .i64 a0, .int .i64 a1] w fun e w' => e = .returned (.int .i64 r) ∧ Drawn0 w w' := by
  have H : (if a0 > a1 then (some a0) else (some a1)) = some r := h; clear h; by_cases c3 : a0 > a1
  · rw [if_pos c3] at H; have c3b0 : decide (a1 < a0) = true := decide_eq_true c3; clear c3; obtain rfl := Option.some.inj H; go_enter Tryd.func42, Tryd.ntmps42; go_wp2; go_ret; exact ⟨z3_, z11_⟩
  · rw [if_neg c3] at H; have c3b0 : decide (a1 < a0) = false := decide_eq_false c3; clear c3; obtain rfl := Option.some.inj H; go_enter Tryd.func42, Tryd.ntmps42; go_wp2; go_ret; exact ⟨z3_, z11_⟩

end Go.Proofs.YtcghnnhhgngddaaDoor.MSettled
