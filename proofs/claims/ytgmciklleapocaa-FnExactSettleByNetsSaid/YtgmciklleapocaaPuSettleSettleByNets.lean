/- Nets that are settled: the payments, as a function of lists, and that both sides come to it. -/
import Derived.Test.YtgmciklleapocaaMSettleByNetsx0
import Derived.Test.YtgmciklleapocaaMSettleByNetsx2
import Derived.Test.YtgmciklleapocaaMSettleByNetsx3
import Derived.Test.YtgmciklleapocaaMSettleByNetsx4
import Derived.Test.YtgmciklleapocaaMSettleByNetsx5
import Derived.Test.YtgmciklleapocaaEv
import Derived.Test.YtgmciklleapocaaPuDebtSettleByNets
import Derived.Test.YtgmciklleapocaaPuZeroSettleByNets
namespace Go.Proofs.Ytgmciklleapocaa.PuSettleSettleByNets
open Go.RowKit Go.Proofs.Ytgmciklleapocaa.MSettleByNets Go.Proofs.YtgmciklleapocaaW.PrintWords Go.Proofs.YtgmciklleapocaaW.PrintLast Go.Proofs.Ytgmciklleapocaa.Evs Go.Proofs.Ytgmciklleapocaa.PuDebtSettleByNets Go.Proofs.Ytgmciklleapocaa.PuZeroSettleByNets
set_option linter.unusedVariables false
set_option linter.unusedSimpArgs false

abbrev g (x : List Int) (i : Nat) : Int := x.getD i 0
theorem g_lt (x : List Int) (i : Nat) (h : i < x.length) : g x i = x[i] := getD_lt x 0 i h
theorem rd_g (x : List Int) (i : Nat) : rd x (i : Int) = g x i := rfl
def scan (x : List Int) : List Int → Nat → Nat → Nat → Nat × Nat
  | [], _, f, t => (f, t)
  | v :: l, i, f, t => scan x l (i + 1) (if v < g x f then i else f) (if v > g x t then i else t)
theorem scan_spec (x : List Int) : ∀ (l : List Int) (i f t : Nat), l = x.drop i → f < x.length → t < x.length →
    (scan x l i f t).1 < x.length ∧ (scan x l i f t).2 < x.length ∧ g x (scan x l i f t).1 ≤ g x f ∧ g x t ≤ g x (scan x l i f t).2 ∧ ∀ v ∈ l, g x (scan x l i f t).1 ≤ v ∧ v ≤ g x (scan x l i f t).2 := by
  intro l
  induction l with
  | nil => intro i f t _ hf ht; exact ⟨hf, ht, Int.le_refl _, Int.le_refl _, by simp⟩
  | cons v l ih =>
    intro i f t hl hf ht
    have hi : i < x.length := by
      have := congrArg List.length hl
      rw [List.length_drop] at this
      simp at this
      omega
    rw [List.drop_eq_getElem_cons hi] at hl
    injection hl with hv hl
    have hg : g x i = v := by rw [g_lt x i hi, hv]
    simp only [scan]
    by_cases h1 : v < g x f
    · by_cases h2 : v > g x t
      · rw [if_pos h1, if_pos h2]
        obtain ⟨a, b, c, d, e⟩ := ih (i + 1) i i hl hi hi
        refine ⟨a, b, by omega, by omega, fun u hu => ?_⟩
        rcases List.mem_cons.1 hu with rfl | hu
        · omega
        · exact e u hu
      · rw [if_pos h1, if_neg h2]
        obtain ⟨a, b, c, d, e⟩ := ih (i + 1) i t hl hi ht
        refine ⟨a, b, by omega, by omega, fun u hu => ?_⟩
        rcases List.mem_cons.1 hu with rfl | hu
        · omega
        · exact e u hu
    · by_cases h2 : v > g x t
      · rw [if_neg h1, if_pos h2]
        obtain ⟨a, b, c, d, e⟩ := ih (i + 1) f i hl hf hi
        refine ⟨a, b, by omega, by omega, fun u hu => ?_⟩
        rcases List.mem_cons.1 hu with rfl | hu
        · omega
        · exact e u hu
      · rw [if_neg h1, if_neg h2]
        obtain ⟨a, b, c, d, e⟩ := ih (i + 1) f t hl hf ht
        refine ⟨a, b, by omega, by omega, fun u hu => ?_⟩
        rcases List.mem_cons.1 hu with rfl | hu
        · omega
        · exact e u hu
theorem scan_first (x : List Int) (h : 0 < x.length) : scan x x 0 0 0 = scan x (x.drop 1) 1 0 0 := by
  cases x with
  | nil => simp at h
  | cons v l => simp [scan, g]

theorem sum_set (x : List Int) : ∀ (i : Nat) (v : Int), i < x.length → (x.set i v).sum = x.sum - g x i + v := by
  induction x with
  | nil => intro i v h; simp at h
  | cons a x ih =>
    intro i v h
    cases i with
    | zero => simp [g]; omega
    | succ i =>
      have := ih i v (by simpa using h)
      simp only [List.set_cons_succ, List.sum_cons, this, g, List.getD_cons_succ]
      omega
def nz : List Int → Nat
  | [] => 0
  | a :: x => (if a = 0 then 0 else 1) + nz x
theorem nz_set (x : List Int) : ∀ (i : Nat) (v : Int), i < x.length → nz (x.set i v) + (if g x i = 0 then 0 else 1) = nz x + (if v = 0 then 0 else 1) := by
  induction x with
  | nil => intro i v h; simp at h
  | cons a x ih =>
    intro i v h
    cases i with
    | zero => simp [g, nz]; omega
    | succ i =>
      have := ih i v (by simpa using h)
      simp only [List.set_cons_succ, nz, g, List.getD_cons_succ] at this ⊢
      omega
theorem nz_le (x : List Int) : nz x ≤ x.length := by
  induction x with
  | nil => simp [nz]
  | cons a x ih => simp only [nz, List.length_cons]; split <;> omega
theorem sum_pos (x : List Int) (h : ∀ v ∈ x, 0 < v) (hx : x ≠ []) : 0 < x.sum := by
  induction x with
  | nil => exact absurd rfl hx
  | cons a x ih =>
    rw [List.sum_cons]
    have ha := h a (by simp)
    by_cases hn : x = []
    · subst hn; simpa using ha
    · have := ih (fun v hv => h v (by simp [hv])) hn
      omega
theorem sum_neg (x : List Int) (h : ∀ v ∈ x, v < 0) (hx : x ≠ []) : x.sum < 0 := by
  induction x with
  | nil => exact absurd rfl hx
  | cons a x ih =>
    rw [List.sum_cons]
    have ha := h a (by simp)
    by_cases hn : x = []
    · subst hn; simpa using ha
    · have := ih (fun v hv => h v (by simp [hv])) hn
      omega
def good (x : List Int) : Prop := 1 ≤ x.length ∧ x.length ≤ 16 ∧ (∀ v ∈ x, -100000000 ≤ v ∧ v ≤ 100000000) ∧ x.sum = 0
def low (x : List Int) : Nat := (scan x x 0 0 0).1
def high (x : List Int) : Nat := (scan x x 0 0 0).2
def due (x : List Int) : Int := if g x (high x) < -(g x (low x)) then g x (high x) else -(g x (low x))
def pay (x : List Int) : List Int :=
  (x.set (low x) (g x (low x) + due x)).set (high x) (g (x.set (low x) (g x (low x) + due x)) (high x) - due x)
theorem pick {x : List Int} (h : good x) : low x < x.length ∧ high x < x.length ∧ g x (low x) ≤ 0 ∧ 0 ≤ g x (high x) ∧ (∀ v ∈ x, g x (low x) ≤ v ∧ v ≤ g x (high x)) ∧ -100000000 ≤ g x (low x) ∧ g x (high x) ≤ 100000000 := by
  obtain ⟨h1, h2, h3, h4⟩ := h
  obtain ⟨a, b, _, _, e⟩ := scan_spec x x 0 0 0 rfl (by omega) (by omega)
  change low x < x.length at a
  change high x < x.length at b
  change ∀ v ∈ x, g x (low x) ≤ v ∧ v ≤ g x (high x) at e
  have hx : x ≠ [] := by intro hx; subst hx; simp at h1
  have ml : g x (low x) ∈ x := by rw [g_lt x _ a]; exact List.getElem_mem a
  have mh : g x (high x) ∈ x := by rw [g_lt x _ b]; exact List.getElem_mem b
  refine ⟨a, b, ?_, ?_, e, (h3 _ ml).1, (h3 _ mh).2⟩
  · by_cases hn : g x (low x) ≤ 0
    · exact hn
    · have := sum_pos x (fun v hv => by have := (e v hv).1; omega) hx
      omega
  · by_cases hn : 0 ≤ g x (high x)
    · exact hn
    · have := sum_neg x (fun v hv => by have := (e v hv).2; omega) hx
      omega
theorem due_bd {x : List Int} (h : good x) : 0 ≤ due x ∧ due x ≤ -(g x (low x)) ∧ due x ≤ g x (high x) ∧ due x ≤ 100000000 := by
  obtain ⟨a, b, c, d, e, f1, f2⟩ := pick h
  unfold due
  split <;> omega
theorem g_set_ne (x : List Int) (i j : Nat) (v : Int) (h : i ≠ j) : g (x.set i v) j = g x j := by
  simp [g, List.getD_eq_getElem?_getD, List.getElem?_set_ne h]
theorem pay_spec {x : List Int} (h : good x) (hd : 0 < due x) : low x ≠ high x ∧ good (pay x) ∧ nz (pay x) < nz x := by
  obtain ⟨a, b, c, d, e, f1, f2⟩ := pick h
  obtain ⟨d0, d1, d2, d3⟩ := due_bd h
  obtain ⟨h1, h2, h3, h4⟩ := h
  have hne : low x ≠ high x := by intro hh; rw [hh] at d1; omega
  have hg : g (x.set (low x) (g x (low x) + due x)) (high x) = g x (high x) := g_set_ne x _ _ _ hne
  refine ⟨hne, ⟨by simp [pay]; omega, by simp [pay]; omega, ?_, ?_⟩, ?_⟩
  · intro v hv
    unfold pay at hv
    rw [hg] at hv
    rcases List.mem_or_eq_of_mem_set hv with hv | rfl
    · rcases List.mem_or_eq_of_mem_set hv with hv | rfl
      · exact h3 v hv
      · omega
    · omega
  · unfold pay
    rw [sum_set _ _ _ (by simpa using b), sum_set _ _ _ a, h4, hg]
    omega
  · unfold pay
    rw [hg]
    have e1 := nz_set (x.set (low x) (g x (low x) + due x)) (high x) (g x (high x) - due x) (by simpa using b)
    have e2 := nz_set x (low x) (g x (low x) + due x) a
    rw [hg] at e1
    have hl : ¬ g x (low x) = 0 := by omega
    have hh : ¬ g x (high x) = 0 := by omega
    rw [if_neg hh] at e1
    rw [if_neg hl] at e2
    have hz : g x (low x) + due x = 0 ∨ g x (high x) - due x = 0 := by
      unfold due; split <;> omega
    rcases hz with hz | hz
    · rw [if_pos hz] at e2
      have : (if g x (high x) - due x = 0 then (0 : Nat) else 1) ≤ 1 := by split <;> omega
      omega
    · rw [if_pos hz] at e1
      have : (if g x (low x) + due x = 0 then (0 : Nat) else 1) ≤ 1 := by split <;> omega
      omega
/-- the payments -/
def settleF : Nat → List Int → List D
  | 0, _ => []
  | m + 1, x => if due x ≤ 0 then [] else ⟨(low x : Int), (high x : Int), due x⟩ :: settleF m (pay x)
theorem settleF_more (m : Nat) : ∀ x, good x → nz x ≤ m → ∀ j, settleF (m + 1 + j) x = settleF (m + 1) x := by
  induction m with
  | zero =>
    intro x h hz j
    have : ¬ 0 < due x := fun hd => by have := (pay_spec h hd).2.2; omega
    rw [show 0 + 1 + j = j + 1 by omega]
    simp only [settleF]
    rw [if_pos (by omega), if_pos (by omega)]
  | succ m ih =>
    intro x h hz j
    rw [show m + 1 + 1 + j = (m + 1 + j) + 1 by omega]
    simp only [settleF]
    by_cases hd : due x ≤ 0
    · rw [if_pos hd, if_pos hd]
    · rw [if_neg hd, if_neg hd]
      obtain ⟨_, hg, hn⟩ := pay_spec h (by omega)
      rw [show (if due (pay x) ≤ 0 then [] else ⟨(low (pay x) : Int), (high (pay x) : Int), due (pay x)⟩ :: settleF m (pay (pay x))) = settleF (m + 1) (pay x) from rfl]
      rw [ih (pay x) hg (by omega) j]
def settleL (x : List Int) : List D := settleF 17 x
theorem settle_eq {x : List Int} (h : good x) (m : Nat) (hm : nz x ≤ m) (hm2 : m ≤ 16) : settleF (m + 1) x = settleL x := by
  have := settleF_more m x h hm (16 - m)
  rw [show m + 1 + (16 - m) = 17 by omega] at this
  exact this.symm
theorem settle_step {x : List Int} (h : good x) : settleL x = if due x ≤ 0 then [] else ⟨(low x : Int), (high x : Int), due x⟩ :: settleL (pay x) := by
  by_cases hd : due x ≤ 0
  · unfold settleL; simp only [settleF]; rw [if_pos hd, if_pos hd]
  · rw [if_neg hd]
    obtain ⟨_, hg, hn⟩ := pay_spec h (by omega)
    have hz := nz_le x
    have h16 := h.2.1
    unfold settleL
    rw [settleF]
    rw [if_neg hd, settle_eq hg 15 (by omega) (by omega)]
    rfl

theorem good_of {x : List Int} (h : nets0 x = true) : good x := by
  simp only [nets0, Bool.and_eq_true, decide_eq_true_eq, List.all_eq_true, beq_iff_eq] at h
  exact ⟨h.1.1, h.1.2, fun v hv => of_decide_eq_true (h.2.1 v hv), h.2.2⟩

/-- the scan, then what follows: the reference's -/
theorem scanS_ev (out : List D) (x : List Int) (R : List D) (h16 : x.length ≤ 16) (hend : ∀ f t : Nat, (f, t) = scan x (x.drop 1) 1 0 0 → Ev (fun k => spec_l02Settle.l1 k out x (f : Int) (t : Int) (x.length : Int)) R) (h : 1 ≤ x.length) :
    Ev (fun k => spec_l02Settle.l1 k out x 0 0 1) R := by
  have key : ∀ (d i f t : Nat), x.length - i = d → i ≤ x.length → f < x.length → t < x.length → scan x (x.drop i) i f t = scan x (x.drop 1) 1 0 0 → Ev (fun k => spec_l02Settle.l1 k out x (f : Int) (t : Int) (i : Int)) R := by
    intro d
    induction d with
    | zero =>
      intro i f t hd hi hf ht hs
      have : i = x.length := by omega
      subst this
      rw [List.drop_of_length_le (Nat.le_refl _)] at hs
      exact hend f t hs
    | succ d ih =>
      intro i f t hd hi hf ht hs
      have hlt : i < x.length := by omega
      have hg : rd x (i : Int) = x[i] := getD_lt x 0 i hlt
      rw [List.drop_eq_getElem_cons hlt] at hs
      simp only [scan] at hs
      have hstep : ∀ k, spec_l02Settle.l1 (k + 1) out x (f : Int) (t : Int) (i : Int) = spec_l02Settle.l1 k out x ((if x[i] < g x f then i else f : Nat) : Int) ((if x[i] > g x t then i else t : Nat) : Int) ((i + 1 : Nat) : Int) := by
        intro k
        simp only [spec_l02Settle.l1]
        rw [if_pos (by omega), if_pos (by omega), if_pos (by omega), if_pos (by omega), hg, rd_g, rd_g, wrap_up hlt (by omega)]
        rw [show ((i : Int) + 1) = ((i + 1 : Nat) : Int) by omega]
        by_cases h1 : x[i] < g x f
        · by_cases h2 : x[i] > g x t
          · rw [if_pos h1, if_pos (by omega), if_pos (by omega), if_pos h2, if_pos h1, if_pos h2]
          · rw [if_pos h1, if_pos (by omega), if_pos (by omega), if_neg h2, if_pos h1, if_neg h2]
        · by_cases h2 : x[i] > g x t
          · rw [if_neg h1, if_pos (by omega), if_pos (by omega), if_pos h2, if_neg h1, if_pos h2]
          · rw [if_neg h1, if_pos (by omega), if_pos (by omega), if_neg h2, if_neg h1, if_neg h2]
      refine Ev.step hstep (ih (i + 1) _ _ (by omega) (by omega) (by split <;> omega) (by split <;> omega) hs)
  exact key (x.length - 1) 1 0 0 rfl h (by omega) (by omega) rfl
theorem scanI_ev (out : List D) (x : List Int) (R : List D) (h16 : x.length ≤ 16) (hend : ∀ f t : Nat, (f, t) = scan x x 0 0 0 → Ev (fun k => impl_settle.l1 k x out (f : Int) (t : Int) x (x.length : Int) (x.length : Int)) R) (h : 1 ≤ x.length) :
    Ev (fun k => impl_settle.l1 k x out 0 0 x (x.length : Int) 0) R := by
  have key : ∀ (d i f t : Nat), x.length - i = d → i ≤ x.length → f < x.length → t < x.length → scan x (x.drop i) i f t = scan x x 0 0 0 → Ev (fun k => impl_settle.l1 k x out (f : Int) (t : Int) x (x.length : Int) (i : Int)) R := by
    intro d
    induction d with
    | zero =>
      intro i f t hd hi hf ht hs
      have : i = x.length := by omega
      subst this
      rw [List.drop_of_length_le (Nat.le_refl _)] at hs
      exact hend f t hs
    | succ d ih =>
      intro i f t hd hi hf ht hs
      have hlt : i < x.length := by omega
      have hg : rd x (i : Int) = x[i] := getD_lt x 0 i hlt
      rw [List.drop_eq_getElem_cons hlt] at hs
      simp only [scan] at hs
      have hstep : ∀ k, impl_settle.l1 (k + 1) x out (f : Int) (t : Int) x (x.length : Int) (i : Int) = impl_settle.l1 k x out ((if x[i] < g x f then i else f : Nat) : Int) ((if x[i] > g x t then i else t : Nat) : Int) x (x.length : Int) ((i + 1 : Nat) : Int) := by
        intro k
        simp only [impl_settle.l1]
        rw [if_pos (by omega), if_pos (by omega), if_pos (by omega), if_pos (by omega), if_pos (by omega), hg, rd_g, rd_g, wrap_up hlt (by omega)]
        rw [show ((i : Int) + 1) = ((i + 1 : Nat) : Int) by omega]
        by_cases h1 : x[i] < g x f
        · by_cases h2 : x[i] > g x t
          · rw [if_pos h1, if_pos (by omega), if_pos (by omega), if_pos h2, if_pos h1, if_pos h2]
          · rw [if_pos h1, if_pos (by omega), if_pos (by omega), if_neg h2, if_pos h1, if_neg h2]
        · by_cases h2 : x[i] > g x t
          · rw [if_neg h1, if_pos (by omega), if_pos (by omega), if_pos h2, if_neg h1, if_pos h2]
          · rw [if_neg h1, if_pos (by omega), if_pos (by omega), if_neg h2, if_neg h1, if_neg h2]
      refine Ev.step hstep (ih (i + 1) _ _ (by omega) (by omega) (by split <;> omega) (by split <;> omega) hs)
  exact key x.length 0 0 0 rfl (by omega) (by omega) (by omega) rfl
theorem settleS_ev : ∀ (m : Nat) (x : List Int) (out : List D), good x → nz x ≤ m → out.length + m ≤ 1000000 → Ev (fun k => spec_l02Settle.l0 k out x) (out ++ settleL x) := by
  intro m
  induction m with
  | zero => 
    intro x out h hz ho
    have hd : ¬ 0 < due x := fun hd => by have := (pay_spec h hd).2.2; omega
    obtain ⟨a, b, c, d, e, f1, f2⟩ := pick h
    obtain ⟨d0, d1, d2, d3⟩ := due_bd h
    refine Ev.step (f := fun k => spec_l02Settle.l1 k out x 0 0 1) (fun k => by simp only [spec_l02Settle.l0]) (scanS_ev out x _ h.2.1 (fun f t hft => ?_) h.1)
    rw [← scan_first x (by have := h.1; omega)] at hft
    obtain rfl : f = low x := congrArg Prod.fst hft
    obtain rfl : t = high x := congrArg Prod.snd hft
    refine Ev.step (f := fun _ => some (out ++ settleL x)) (fun k => ?_) (Ev.now _)
    simp only [spec_l02Settle.l1]
    rw [if_neg (by omega), if_pos (by omega), if_pos (by omega), if_pos (by omega), if_pos (by omega), rd_g, rd_g, wrap_id (x := -g x (low x)) (by omega) (by omega)]
    have hmin : spec_l00Min.f (-g x (low x)) (g x (high x)) = some (due x) := by
      unfold spec_l00Min.f due
      by_cases h1 : -g x (low x) < g x (high x)
      · rw [if_pos h1, if_neg (by omega)]
      · rw [if_neg h1]
        by_cases h2 : g x (high x) < -g x (low x)
        · rw [if_pos h2]
        · rw [if_neg h2]; congr 1; omega
    rw [hmin]
    simp only [Option.bind_some]
    rw [if_pos (by omega), settle_step h, if_pos (by omega), List.append_nil]
  | succ m ih =>
    intro x out h hz ho
    obtain ⟨a, b, c, d, e, f1, f2⟩ := pick h
    obtain ⟨d0, d1, d2, d3⟩ := due_bd h
    refine Ev.step (f := fun k => spec_l02Settle.l1 k out x 0 0 1) (fun k => by simp only [spec_l02Settle.l0]) (scanS_ev out x _ h.2.1 (fun f t hft => ?_) h.1)
    rw [← scan_first x (by have := h.1; omega)] at hft
    obtain rfl : f = low x := congrArg Prod.fst hft
    obtain rfl : t = high x := congrArg Prod.snd hft
    have hmin : spec_l00Min.f (-g x (low x)) (g x (high x)) = some (due x) := by
      unfold spec_l00Min.f due
      by_cases h1 : -g x (low x) < g x (high x)
      · rw [if_pos h1, if_neg (by omega)]
      · rw [if_neg h1]
        by_cases h2 : g x (high x) < -g x (low x)
        · rw [if_pos h2]
        · rw [if_neg h2]; congr 1; omega
    have h0 : ∀ k, spec_l02Settle.l1 (k + 1) out x ((low x : Nat) : Int) ((high x : Nat) : Int) (x.length : Int) = if due x = 0 then some out else spec_l02Settle.l0 k (out ++ [⟨(low x : Int), (high x : Int), due x⟩]) (pay x) := by
      intro k
      simp only [spec_l02Settle.l1]
      rw [if_neg (by omega), if_pos (by omega), if_pos (by omega), if_pos (by omega), if_pos (by omega), rd_g, rd_g, wrap_id (x := -g x (low x)) (by omega) (by omega), hmin]
      simp only [Option.bind_some]
      by_cases hd : due x = 0
      · rw [if_pos hd, if_pos hd]
      · rw [if_neg hd, if_neg hd, if_pos (by omega), wrap_id (x := g x (low x) + due x) (by omega) (by omega)]
        obtain ⟨hne, _, _⟩ := pay_spec h (by omega)
        rw [rd_g, Int.toNat_natCast, Int.toNat_natCast, g_set_ne x _ _ _ hne, wrap_id (x := g x (high x) - due x) (by omega) (by omega)]
        unfold pay
        rw [g_set_ne x _ _ _ hne]
    refine Ev.step h0 ?_
    by_cases hd : due x = 0
    · refine ev_pos hd ?_
      rw [settle_step h, if_pos (by omega), List.append_nil]; exact Ev.now _
    · refine ev_neg hd ?_
      obtain ⟨hne, hg, hn⟩ := pay_spec h (by omega)
      refine ev_eq (ih (pay x) (out ++ [⟨(low x : Int), (high x : Int), due x⟩]) hg (by omega) (by simp; omega)) ?_
      rw [settle_step h, if_neg (by omega)]; simp
theorem settleI_ev : ∀ (m : Nat) (x : List Int) (out : List D), good x → nz x ≤ m → out.length + m ≤ 1000000 → Ev (fun k => impl_settle.l0 k x out) (out ++ settleL x) := by
  intro m
  have hmn : ∀ x : List Int, mn (-g x (low x)) (g x (high x)) = due x := by
    intro x; unfold mn due; rfl
  have h0 : ∀ (x : List Int) (out : List D), good x → out.length ≤ 1000000 → ∀ k, impl_settle.l1 (k + 1) x out ((low x : Nat) : Int) ((high x : Nat) : Int) x (x.length : Int) (x.length : Int) = if due x ≤ 0 then some out else impl_settle.l0 k (pay x) (out ++ [⟨(low x : Int), (high x : Int), due x⟩]) := by
    intro x out h ho k
    obtain ⟨a, b, c, d, e, f1, f2⟩ := pick h
    obtain ⟨d0, d1, d2, d3⟩ := due_bd h
    simp only [impl_settle.l1]
    rw [if_neg (by omega), if_pos (by omega), if_pos (by omega), if_pos (by omega), if_pos (by omega), rd_g, rd_g, wrap_id (x := -g x (low x)) (by omega) (by omega), hmn]
    by_cases hd : due x ≤ 0
    · rw [if_pos hd, if_pos hd]
    · rw [if_neg hd, if_neg hd]
      simp only [Option.bind_some]
      rw [if_pos (by omega), wrap_id (x := g x (low x) + due x) (by omega) (by omega)]
      obtain ⟨hne, _, _⟩ := pay_spec h (by omega)
      rw [rd_g, Int.toNat_natCast, Int.toNat_natCast, g_set_ne x _ _ _ hne, wrap_id (x := g x (high x) - due x) (by omega) (by omega)]
      unfold pay
      rw [g_set_ne x _ _ _ hne]
  induction m with
  | zero =>
    intro x out h hz ho
    have hd : ¬ 0 < due x := fun hd => by have := (pay_spec h hd).2.2; omega
    refine Ev.step (f := fun k => impl_settle.l1 k x out 0 0 x (x.length : Int) 0) (fun k => by simp only [impl_settle.l0]) (scanI_ev out x _ h.2.1 (fun f t hft => ?_) h.1)
    obtain rfl : f = low x := congrArg Prod.fst hft
    obtain rfl : t = high x := congrArg Prod.snd hft
    refine Ev.step (h0 x out h (by omega)) (ev_pos (by omega) ?_)
    rw [settle_step h, if_pos (by omega), List.append_nil]; exact Ev.now _
  | succ m ih =>
    intro x out h hz ho
    refine Ev.step (f := fun k => impl_settle.l1 k x out 0 0 x (x.length : Int) 0) (fun k => by simp only [impl_settle.l0]) (scanI_ev out x _ h.2.1 (fun f t hft => ?_) h.1)
    obtain rfl : f = low x := congrArg Prod.fst hft
    obtain rfl : t = high x := congrArg Prod.snd hft
    refine Ev.step (h0 x out h (by omega)) ?_
    by_cases hd : due x ≤ 0
    · refine ev_pos hd ?_
      rw [settle_step h, if_pos hd, List.append_nil]; exact Ev.now _
    · refine ev_neg hd ?_
      obtain ⟨hne, hg, hn⟩ := pay_spec h (by omega)
      refine ev_eq (ih (pay x) (out ++ [⟨(low x : Int), (high x : Int), due x⟩]) hg (by omega) (by simp; omega)) ?_
      rw [settle_step h, if_neg hd]; simp
theorem settle_len {x : List Int} (h : good x) : (settleL x).length ≤ 17 := by
  have : ∀ m (x : List Int), (settleF m x).length ≤ m := by
    intro m
    induction m with
    | zero => intro x; simp [settleF]
    | succ m ih => intro x; simp only [settleF]; split; simp; simpa using ih (pay x)
  exact this 17 x
theorem l02Settle_ev (x : List Int) (out : List D) (h : good x) (ho : out.length ≤ 900000) : Ev (fun k => spec_l02Settle.f k x out) (out ++ settleL x) := by
  unfold spec_l02Settle.f
  have h16 := h.2.1
  refine ev_bind0 rfl (ev_pos (by simp; omega) ?_)
  have hz := nz_le x
  rw [List.nil_append]
  exact settleS_ev 16 x out h (by omega) (by omega)
theorem settleF_ev (x : List Int) (h : good x) : Ev (fun k => impl_settle.f k x) (settleL x) := by
  unfold impl_settle.f
  have h16 := h.2.1
  have hc : slices_Clone_int64_int64.f x = some x := by
    unfold slices_Clone_int64_int64.f
    simp only [Option.bind_some]
    rw [if_pos (by simp; omega)]
    simp
  have hz := nz_le x
  refine ev_bind0 hc (ev_eq (settleI_ev 16 x [] h (by omega) (by simp)) ?_)
  simp
end Go.Proofs.Ytgmciklleapocaa.PuSettleSettleByNets
