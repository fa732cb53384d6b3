/- Nets that are settled: the payments, as a function of lists, and that both sides come to it. -/
import Derived.Test.YtcghnnhhgngddaaDoorMZeroGroupsx0
import Derived.Test.YtcghnnhhgngddaaDoorEv
import Derived.Test.YtcghnnhhgngddaaDoorPuDebtZeroGroups
import Derived.Test.YtcghnnhhgngddaaDoorPuZeroZeroGroups
namespace Go.Proofs.YtcghnnhhgngddaaDoor.PuSettleZeroGroups
open Go.RowKit Go.Proofs.YtcghnnhhgngddaaDoor.MZeroGroups Go.Proofs.YtcghnnhhgngddaaDoorW.PrintWords Go.Proofs.YtcghnnhhgngddaaDoorW.PrintLast Go.Proofs.YtcghnnhhgngddaaDoor.Evs Go.Proofs.YtcghnnhhgngddaaDoor.PuDebtZeroGroups Go.Proofs.YtcghnnhhgngddaaDoor.PuZeroZeroGroups
set_option linter.unusedVariables false
set_option linter.unusedSimpArgs false

abbrev g (x : List Int) (i : Nat) : Int := x.getD i 0
theorem g_lt (x : List Int) (i : Nat) (h : i < x.length) : g x i = x[i] := getD_lt x 0 i h
theorem rd_g (x : List Int) (i : Nat) : rd x (i : Int) = g x i := rfl
def scan (x : List Int) : List Int → Nat → Nat → Nat → Nat × Nat
  | [], _, f, t => (f, t)
  | v :: l, i, f, t => scan x l (i + 1) (if v < g x f then i else f) (if v > g x t then i else t)
theorem scan_spec (x : List Int) : ∀ (l : List Int) (i f t : Nat), l = x.drop i → f < x.length → t < x.length →
    (scan x l i f t).1 < x.length ∧ (scan x l i f t).2 < x.length ∧ g x (scan x l i f t).1 ≤ g x f ∧ g x t ≤ g x (scan x l i f t).2 ∧ ∀ v ∈ l, g x (scan x l i f t).1 ≤ v ∧ v ≤ g x (scan x l i f t).2 := by
  intro l
  induction l with
  | nil => intro i f t _ hf ht; exact ⟨hf, ht, Int.le_refl _, Int.le_refl _, by simp⟩
  | cons v l ih =>
    intro i f t hl hf ht
    have hi : i < x.length := by
      have := congrArg List.length hl
      rw [List.length_drop] at this
      simp at this
      omega
    rw [List.drop_eq_getElem_cons hi] at hl
    injection hl with hv hl
    have hg : g x i = v := by rw [g_lt x i hi, hv]
    simp only [scan]
    by_cases h1 : v < g x f
    · by_cases h2 : v > g x t
      · rw [if_pos h1, if_pos h2]
        obtain ⟨a, b, c, d, e⟩ := ih (i + 1) i i hl hi hi
        refine ⟨a, b, by omega, by omega, fun u hu => ?_⟩
        rcases List.mem_cons.1 hu with rfl | hu
        · omega
        · exact e u hu
      · rw [if_pos h1, if_neg h2]
        obtain ⟨a, b, c, d, e⟩ := ih (i + 1) i t hl hi ht
        refine ⟨a, b, by omega, by omega, fun u hu => ?_⟩
        rcases List.mem_cons.1 hu with rfl | hu
        · omega
        · exact e u hu
    · by_cases h2 : v > g x t
      · rw [if_neg h1, if_pos h2]
        obtain ⟨a, b, c, d, e⟩ := ih (i + 1) f i hl hf hi
        refine ⟨a, b, by omega, by omega, fun u hu => ?_⟩
        rcases List.mem_cons.1 hu with rfl | hu
        · omega
        · exact e u hu
      · rw [if_neg h1, if_neg h2]
        obtain ⟨a, b, c, d, e⟩ := ih (i + 1) f t hl hf ht
        refine ⟨a, b, by omega, by omega, fun u hu => ?_⟩
        rcases List.mem_cons.1 hu with rfl | hu
        · omega
        · exact e u hu
theorem scan_first (x : List Int) (h : 0 < x.length) : scan x x 0 0 0 = scan x (x.drop 1) 1 0 0 := by
  cases x with
  | nil => simp at h
  | cons v l => simp [scan, g]

theorem sum_set (x : List Int) : ∀ (i : Nat) (v : Int), i < x.length → (x.set i v).sum = x.sum - g x i + v := by
  induction x with
  | nil => intro i v h; simp at h
  | cons a x ih =>
    intro i v h
    cases i with
    | zero => simp [g]; omega
    | succ i =>
      have := ih i v (by simpa using h)
      simp only [List.set_cons_succ, List.sum_cons, this, g, List.getD_cons_succ]
      omega
def nz : List Int → Nat
  | [] => 0
  | a :: x => (if a = 0 then 0 else 1) + nz x
theorem nz_set (x : List Int) : ∀ (i : Nat) (v : Int), i < x.length → nz (x.set i v) + (if g x i = 0 then 0 else 1) = nz x + (if v = 0 then 0 else 1) := by
  induction x with
  | nil => intro i v h; simp at h
  | cons a x ih =>
    intro i v h
    cases i with
    | zero => simp [g, nz]; omega
    | succ i =>
      have := ih i v (by simpa using h)
      simp only [List.set_cons_succ, nz, g, List.getD_cons_succ] at this ⊢
      omega
theorem nz_le (x : List Int) : nz x ≤ x.length := by
  induction x with
  | nil => simp [nz]
  | cons a x ih => simp only [nz, List.length_cons]; split <;> omega
theorem sum_pos (x : List Int) (h : ∀ v ∈ x, 0 < v) (hx : x ≠ []) : 0 < x.sum := by
  induction x with
  | nil => exact absurd rfl hx
  | cons a x ih =>
    rw [List.sum_cons]
    have ha := h a (by simp)
    by_cases hn : x = []
    · subst hn; simpa using ha
    · have := ih (fun v hv => h v (by simp [hv])) hn
      omega
theorem sum_neg (x : List Int) (h : ∀ v ∈ x, v < 0) (hx : x ≠ []) : x.sum < 0 := by
  induction x with
  | nil => exact absurd rfl hx
  | cons a x ih =>
    rw [List.sum_cons]
    have ha := h a (by simp)
    by_cases hn : x = []
    · subst hn; simpa using ha
    · have := ih (fun v hv => h v (by simp [hv])) hn
      omega
def good (x : List Int) : Prop := 1 ≤ x.length ∧ x.length ≤ 16 ∧ (∀ v ∈ x, -100000000 ≤ v ∧ v ≤ 100000000) ∧ x.sum = 0
def low (x : List Int) : Nat := (scan x x 0 0 0).1
def high (x : List Int) : Nat := (scan x x 0 0 0).2
def due (x : List Int) : Int := if g x (high x) < -(g x (low x)) then g x (high x) else -(g x (low x))
def pay (x : List Int) : List Int :=
  (x.set (low x) (g x (low x) + due x)).set (high x) (g (x.set (low x) (g x (low x) + due x)) (high x) - due x)
theorem pick {x : List Int} (h : good x) : low x < x.length ∧ high x < x.length ∧ g x (low x) ≤ 0 ∧ 0 ≤ g x (high x) ∧ (∀ v ∈ x, g x (low x) ≤ v ∧ v ≤ g x (high x)) ∧ -100000000 ≤ g x (low x) ∧ g x (high x) ≤ 100000000 := by
  obtain ⟨h1, h2, h3, h4⟩ := h
  obtain ⟨a, b, _, _, e⟩ := scan_spec x x 0 0 0 rfl (by omega) (by omega)
  change low x < x.length at a
  change high x < x.length at b
  change ∀ v ∈ x, g x (low x) ≤ v ∧ v ≤ g x (high x) at e
  have hx : x ≠ [] := by intro hx; subst hx; simp at h1
  have ml : g x (low x) ∈ x := by rw [g_lt x _ a]; exact List.getElem_mem a
  have mh : g x (high x) ∈ x := by rw [g_lt x _ b]; exact List.getElem_mem b
  refine ⟨a, b, ?_, ?_, e, (h3 _ ml).1, (h3 _ mh).2⟩
  · by_cases hn : g x (low x) ≤ 0
    · exact hn
    · have := sum_pos x (fun v hv => by have := (e v hv).1; omega) hx
      omega
  · by_cases hn : 0 ≤ g x (high x)
    · exact hn
    · have := sum_neg x (fun v hv => by have := (e v hv).2; omega) hx
      omega
theorem due_bd {x : List Int} (h : good x) : 0 ≤ due x ∧ due x ≤ -(g x (low x)) ∧ due x ≤ g x (high x) ∧ due x ≤ 100000000 := by
  obtain ⟨a, b, c, d, e, f1, f2⟩ := pick h
  unfold due
  split <;> omega
theorem g_set_ne (x : List Int) (i j : Nat) (v : Int) (h : i ≠ j) : g (x.set i v) j = g x j := by
  simp [g, List.getD_eq_getElem?_getD, List.getElem?_set_ne h]
theorem pay_spec {x : List Int} (h : good x) (hd : 0 < due x) : low x ≠ high x ∧ good (pay x) ∧ nz (pay x) < nz x := by
  obtain ⟨a, b, c, d, e, f1, f2⟩ := pick h
  obtain ⟨d0, d1, d2, d3⟩ := due_bd h
  obtain ⟨h1, h2, h3, h4⟩ := h
  have hne : low x ≠ high x := by intro hh; rw [hh] at d1; omega
  have hg : g (x.set (low x) (g x (low x) + due x)) (high x) = g x (high x) := g_set_ne x _ _ _ hne
  refine ⟨hne, ⟨by simp [pay]; omega, by simp [pay]; omega, ?_, ?_⟩, ?_⟩
  · intro v hv
    unfold pay at hv
    rw [hg] at hv
    rcases List.mem_or_eq_of_mem_set hv with hv | rfl
    · rcases List.mem_or_eq_of_mem_set hv with hv | rfl
      · exact h3 v hv
      · omega
    · omega
  · unfold pay
    rw [sum_set _ _ _ (by simpa using b), sum_set _ _ _ a, h4, hg]
    omega
  · unfold pay
    rw [hg]
    have e1 := nz_set (x.set (low x) (g x (low x) + due x)) (high x) (g x (high x) - due x) (by simpa using b)
    have e2 := nz_set x (low x) (g x (low x) + due x) a
    rw [hg] at e1
    have hl : ¬ g x (low x) = 0 := by omega
    have hh : ¬ g x (high x) = 0 := by omega
    rw [if_neg hh] at e1
    rw [if_neg hl] at e2
    have hz : g x (low x) + due x = 0 ∨ g x (high x) - due x = 0 := by
      unfold due; split <;> omega
    rcases hz with hz | hz
    · rw [if_pos hz] at e2
      have : (if g x (high x) - due x = 0 then (0 : Nat) else 1) ≤ 1 := by split <;> omega
      omega
    · rw [if_pos hz] at e1
      have : (if g x (low x) + due x = 0 then (0 : Nat) else 1) ≤ 1 := by split <;> omega
      omega
theorem good_of {x : List Int} (h : nets0 x = true) : good x := by
  simp only [nets0, Bool.and_eq_true, decide_eq_true_eq, List.all_eq_true, beq_iff_eq] at h
  exact ⟨h.1.1, h.1.2, fun v hv => of_decide_eq_true (h.2.1 v hv), h.2.2⟩


end Go.Proofs.YtcghnnhhgngddaaDoor.PuSettleZeroGroups
