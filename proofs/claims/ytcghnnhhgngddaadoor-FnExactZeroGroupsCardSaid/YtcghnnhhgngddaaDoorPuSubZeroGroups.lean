/- Parts of a set of bits, their sums, and in how many groups of sum 0 a set can be parted: two ways to tell it; the first group. -/
import Derived.Test.YtcghnnhhgngddaaDoorMZeroGroupsx0
namespace Go.Proofs.YtcghnnhhgngddaaDoor.PuSubZeroGroups
set_option linter.unusedVariables false
/-- bits of p are bits of s -/
def Sb (p s : Nat) : Prop := p &&& s = p
theorem half_and (a b : Nat) : (a &&& b) / 2 = a / 2 &&& b / 2 := by
  apply Nat.eq_of_testBit_eq; intro i
  rw [Nat.testBit_and, ← Nat.testBit_succ, ← Nat.testBit_succ, ← Nat.testBit_succ, Nat.testBit_and]
theorem odd_and (a b : Nat) : (a &&& b) % 2 = (a % 2) * (b % 2) := by
  have h := Nat.testBit_and a b 0
  simp only [Nat.testBit_zero] at h
  rcases Nat.mod_two_eq_zero_or_one a with ha | ha <;> rcases Nat.mod_two_eq_zero_or_one b with hb | hb <;> rcases Nat.mod_two_eq_zero_or_one (a &&& b) with hc | hc <;> simp [ha, hb, hc] at h ⊢
theorem Sb_iff (p s : Nat) : Sb p s ↔ (p % 2 ≤ s % 2 ∧ Sb (p / 2) (s / 2)) := by
  unfold Sb
  have h1 := half_and p s
  have h2 := odd_and p s
  constructor
  · intro h
    rw [h] at h1 h2
    refine ⟨?_, h1.symm⟩
    rcases Nat.mod_two_eq_zero_or_one p with ha | ha <;> rcases Nat.mod_two_eq_zero_or_one s with hb | hb <;> rw [ha, hb] at h2 ⊢ <;> omega
  · rintro ⟨ho, hh⟩
    rw [hh] at h1
    rcases Nat.mod_two_eq_zero_or_one p with ha | ha <;> rcases Nat.mod_two_eq_zero_or_one s with hb | hb <;> rw [ha, hb] at h2 ho <;> omega
theorem Sb_le {p s : Nat} (h : Sb p s) : p ≤ s := by
  have := Nat.and_le_right (n := p) (m := s)
  unfold Sb at h; omega
theorem Sb_and (p s : Nat) : Sb (p &&& s) s := by unfold Sb; rw [Nat.and_assoc, Nat.and_self]
theorem Sb_refl (s : Nat) : Sb s s := Nat.and_self s
theorem Sb_zero (s : Nat) : Sb 0 s := Nat.zero_and s
theorem Sb_bit {p s : Nat} : Sb p s ↔ ∀ i, p.testBit i = true → s.testBit i = true := by
  unfold Sb
  constructor
  · intro h i hp
    rw [← h, Nat.testBit_and, Bool.and_eq_true] at hp
    exact hp.2
  · intro h
    apply Nat.eq_of_testBit_eq; intro i
    rw [Nat.testBit_and]
    cases hp : p.testBit i
    · rfl
    · rw [h i hp]; rfl
theorem Sb_trans {a b c : Nat} (h : Sb a b) (h2 : Sb b c) : Sb a c := Sb_bit.2 fun i hi => Sb_bit.1 h2 i (Sb_bit.1 h i hi)
/-- the next smaller one of the parts of s -/
def nx (p s : Nat) : Nat := (p - 1) &&& s
theorem nx_lt {p s : Nat} (h : 0 < p) : nx p s < p := by
  have := Nat.and_le_left (n := p - 1) (m := s)
  unfold nx; omega
theorem nx_top : ∀ (n s p q : Nat), s < n → 0 < p → Sb p s → Sb q s → q < p → q ≤ nx p s
  | 0, s, p, q, hn, _, _, _, _ => by omega
  | n + 1, s, p, q, hn, h0, hp, hq, hlt => by
    have h1 := (Sb_iff p s).1 hp
    have h2 := (Sb_iff q s).1 hq
    have hps := Sb_le hp
    have a1 := half_and (p - 1) s
    have a2 := odd_and (p - 1) s
    unfold nx
    rcases Nat.mod_two_eq_zero_or_one p with e | e
    · have ih := nx_top n (s / 2) (p / 2) (q / 2) (by omega) (by omega) h1.2 h2.2 (by omega)
      unfold nx at ih
      have e1 : (p - 1) / 2 = p / 2 - 1 := by omega
      have e2 : (p - 1) % 2 = 1 := by omega
      rw [e1] at a1
      rw [e2] at a2
      omega
    · have e1 : (p - 1) / 2 = p / 2 := by omega
      have e3 : p / 2 &&& s / 2 = p / 2 := h1.2
      rw [e1, e3] at a1
      omega
/-- the parts of s below p that are not empty, the greatest first -/
def subs (s : Nat) : Nat → List Nat
  | p => if h : 0 < p then (if 0 < nx p s then nx p s :: subs s (nx p s) else []) else []
termination_by p => p
decreasing_by exact nx_lt h
theorem subs_mem (s : Nat) : ∀ (n p : Nat), p < n → Sb p s → ∀ q, q ∈ subs s p ↔ (0 < q ∧ q < p ∧ Sb q s)
  | 0, p, hn, _, q => by omega
  | n + 1, p, hn, hp, q => by
    unfold subs
    by_cases h0 : 0 < p
    · rw [dif_pos h0]
      have hx := nx_lt (s := s) h0
      have hs : Sb (nx p s) s := Sb_and _ _
      by_cases h1 : 0 < nx p s
      · rw [if_pos h1, List.mem_cons, subs_mem s n (nx p s) (by omega) hs]
        constructor
        · rintro (h | h)
          · rw [h]; exact ⟨h1, hx, hs⟩
          · exact ⟨h.1, by omega, h.2.2⟩
        · rintro ⟨h2, h3, h4⟩
          have := nx_top (s + 1) s p q (by omega) h0 hp h4 h3
          by_cases e : q = nx p s
          · exact Or.inl e
          · exact Or.inr ⟨h2, by omega, h4⟩
      · rw [if_neg h1]
        constructor
        · intro h; cases h
        · rintro ⟨h2, h3, h4⟩
          have := nx_top (s + 1) s p q (by omega) h0 hp h4 h3
          omega
    · rw [dif_neg h0]
      constructor
      · intro h; cases h
      · rintro ⟨h2, h3, h4⟩; omega
/-- taking away a part -/
theorem sub_bit : ∀ (n s p : Nat), s < n → Sb p s → ∀ i, (s - p).testBit i = (s.testBit i && !p.testBit i)
  | 0, s, p, hn, _, i => by omega
  | n + 1, s, p, hn, hp, i => by
    have h1 := (Sb_iff p s).1 hp
    have hle := Sb_le hp
    have hle2 := Sb_le h1.2
    have e1 : (s - p) / 2 = s / 2 - p / 2 := by omega
    cases i with
    | zero =>
      simp only [Nat.testBit_zero]
      rcases Nat.mod_two_eq_zero_or_one p with ha | ha <;> rcases Nat.mod_two_eq_zero_or_one s with hb | hb
      · rw [show (s - p) % 2 = 0 by omega, ha, hb]; decide
      · rw [show (s - p) % 2 = 1 by omega, ha, hb]; decide
      · omega
      · rw [show (s - p) % 2 = 0 by omega, ha, hb]; decide
    | succ i =>
      rw [Nat.testBit_succ, Nat.testBit_succ, Nat.testBit_succ, e1]
      by_cases hz : s = 0
      · subst hz; simp
      · exact sub_bit n (s / 2) (p / 2) (by omega) h1.2 i
theorem sub_Sb {s p : Nat} (h : Sb p s) : Sb (s - p) s := Sb_bit.2 fun i hi => by
  rw [sub_bit (s + 1) s p (by omega) h, Bool.and_eq_true] at hi
  exact hi.1
theorem sub_sub_Sb {s p q : Nat} (hp : Sb p s) (hq : Sb q p) : Sb (p - q) (s - q) := Sb_bit.2 fun i hi => by
  rw [sub_bit (p + 1) p q (by omega) hq, Bool.and_eq_true] at hi
  rw [sub_bit (s + 1) s q (by omega) (Sb_trans hq hp), Sb_bit.1 hp i hi.1]
  exact hi.2
/-- the sum of a set -/
def sm : List Int → Nat → Int
  | [], _ => 0
  | v :: vs, s => (if s % 2 = 1 then v else 0) + sm vs (s / 2)
theorem sm_zero : ∀ vs : List Int, sm vs 0 = 0
  | [] => rfl
  | v :: vs => by simp [sm, sm_zero vs]
theorem sm_sub : ∀ (vs : List Int) (s p : Nat), Sb p s → sm vs (s - p) = sm vs s - sm vs p
  | [], _, _, _ => rfl
  | v :: vs, s, p, h => by
    have h1 := (Sb_iff p s).1 h
    have hle := Sb_le h
    have hle2 := Sb_le h1.2
    have e1 : (s - p) / 2 = s / 2 - p / 2 := by omega
    have ih := sm_sub vs (s / 2) (p / 2) h1.2
    simp only [sm, e1, ih]
    rcases Nat.mod_two_eq_zero_or_one p with ha | ha <;> rcases Nat.mod_two_eq_zero_or_one s with hb | hb
    · rw [show (s - p) % 2 = 0 by omega, ha, hb]; simp
    · rw [show (s - p) % 2 = 1 by omega, ha, hb]; simp; omega
    · omega
    · rw [show (s - p) % 2 = 0 by omega, ha, hb]; simp; omega
/-- a table that is made from below -/
def tab (F : (Nat → Int) → Nat → Int) : Nat → List Int
  | 0 => []
  | n + 1 => tab F n ++ [F (fun i => (tab F n).getD i 0) n]
def val (F : (Nat → Int) → Nat → Int) (s : Nat) : Int := (tab F (s + 1)).getD s 0
theorem tab_len (F : (Nat → Int) → Nat → Int) : ∀ n, (tab F n).length = n
  | 0 => rfl
  | n + 1 => by simp [tab, tab_len F n]
theorem tab_get (F : (Nat → Int) → Nat → Int) : ∀ n s, s < n → (tab F n).getD s 0 = val F s
  | 0, s, h => by omega
  | n + 1, s, h => by
    by_cases e : s = n
    · subst e; rfl
    · have hl := tab_len F n
      rw [← tab_get F n s (by omega)]
      simp only [tab]
      rw [List.getD_eq_getElem?_getD, List.getElem?_append_left (by omega), ← List.getD_eq_getElem?_getD]
def Low (F : (Nat → Int) → Nat → Int) : Prop := ∀ f g s, (∀ i, i < s → f i = g i) → F f s = F g s
theorem val_eq {F : (Nat → Int) → Nat → Int} (h : Low F) (s : Nat) : val F s = F (val F) s := by
  have hl := tab_len F s
  unfold val
  simp only [tab]
  rw [List.getD_eq_getElem?_getD, List.getElem?_append_right (by omega), hl, Nat.sub_self]
  simp only [List.getElem?_cons_zero, Option.getD_some]
  exact h _ _ s (fun i hi => tab_get F s i hi)
theorem tab_next {F : (Nat → Int) → Nat → Int} (h : Low F) (n : Nat) : tab F (n + 1) = tab F n ++ [val F n] := by
  have hl := tab_len F n
  have : val F n = F (fun i => (tab F n).getD i 0) n := by
    rw [val_eq h]
    exact h _ _ n (fun i hi => (tab_get F n i hi).symm)
  rw [this]; rfl
/-- the greatest of some -/
def best (c : Nat → Bool) (v : Nat → Int) (m : Int) (l : List Nat) : Int := l.foldl (fun m q => if c q = true then max m (v q) else m) m
theorem best_ge (c : Nat → Bool) (v : Nat → Int) : ∀ (l : List Nat) (m : Int), m ≤ best c v m l
  | [], m => Int.le_refl m
  | q :: l, m => by
    have := best_ge c v l (if c q = true then max m (v q) else m)
    have e : best c v m (q :: l) = best c v (if c q = true then max m (v q) else m) l := rfl
    rw [e]
    split at this <;> rename_i h
    · rw [if_pos h]; omega
    · rw [if_neg h]; exact this
theorem best_mem (c : Nat → Bool) (v : Nat → Int) : ∀ (l : List Nat) (m : Int) (q : Nat), q ∈ l → c q = true → v q ≤ best c v m l
  | p :: l, m, q, h, hc => by
    have e : best c v m (p :: l) = best c v (if c p = true then max m (v p) else m) l := rfl
    rw [e]
    rcases List.mem_cons.1 h with h | h
    · subst h
      have := best_ge c v l (if c q = true then max m (v q) else m)
      rw [if_pos hc] at this ⊢
      omega
    · exact best_mem c v l _ q h hc
theorem best_ex (c : Nat → Bool) (v : Nat → Int) : ∀ (l : List Nat) (m : Int), best c v m l = m ∨ ∃ q ∈ l, c q = true ∧ best c v m l = v q
  | [], m => Or.inl rfl
  | p :: l, m => by
    have e : best c v m (p :: l) = best c v (if c p = true then max m (v p) else m) l := rfl
    rw [e]
    rcases best_ex c v l (if c p = true then max m (v p) else m) with h | ⟨q, hq, hc, h⟩
    · by_cases hp : c p = true
      · rw [if_pos hp] at h ⊢
        by_cases hm : m ≤ v p
        · exact Or.inr ⟨p, List.mem_cons_self, hp, by omega⟩
        · exact Or.inl (by omega)
      · rw [if_neg hp] at h ⊢; exact Or.inl h
    · exact Or.inr ⟨q, List.mem_cons_of_mem _ hq, hc, h⟩
theorem best_congr (c c2 : Nat → Bool) (v v2 : Nat → Int) : ∀ (l : List Nat) (m : Int), (∀ q ∈ l, c q = c2 q ∧ v q = v2 q) → best c v m l = best c2 v2 m l
  | [], m, _ => rfl
  | p :: l, m, h => by
    have e : best c v m (p :: l) = best c v (if c p = true then max m (v p) else m) l := rfl
    have e2 : best c2 v2 m (p :: l) = best c2 v2 (if c2 p = true then max m (v2 p) else m) l := rfl
    have hp := h p List.mem_cons_self
    rw [e, e2, hp.1, hp.2]
    exact best_congr c c2 v v2 l _ (fun q hq => h q (List.mem_cons_of_mem _ hq))
/-- in how many groups a set can be parted: the code's way -/
def FB (vs : List Int) (f : Nat → Int) (s : Nat) : Int :=
  if s = 0 then 0 else if sm vs s = 0 then best (fun q => decide (sm vs q = 0)) (fun q => 1 + f (s - q)) 1 (subs s s) else 0
/-- and the model's -/
def FG (vs : List Int) (f : Nat → Int) (s : Nat) : Int :=
  if s = 0 then 0 else if sm vs s = 0 then best (fun q => decide (0 < f q ∧ 0 < f (s - q))) (fun q => f q + f (s - q)) 1 (subs s s) else -1
theorem subs_lt {s q : Nat} (h : q ∈ subs s s) : 0 < q ∧ q < s ∧ Sb q s := (subs_mem s (s + 1) s (by omega) (Sb_refl s) q).1 h
theorem FB_low (vs : List Int) : Low (FB vs) := fun f g s h => by
  unfold FB
  split
  · rfl
  · split
    · exact best_congr _ _ _ _ _ _ (fun q hq => ⟨rfl, by rw [h (s - q) (by have := subs_lt hq; omega)]⟩)
    · rfl
theorem FG_low (vs : List Int) : Low (FG vs) := fun f g s h => by
  unfold FG
  split
  · rfl
  · split
    · exact best_congr _ _ _ _ _ _ (fun q hq => by
        have := subs_lt hq
        rw [h (s - q) (by omega), h q (by omega)]
        exact ⟨rfl, rfl⟩)
    · rfl
def B (vs : List Int) (s : Nat) : Int := val (FB vs) s
def G (vs : List Int) (s : Nat) : Int := val (FG vs) s
theorem B_no (vs : List Int) {s : Nat} (h : sm vs s ≠ 0) : B vs s = 0 := by
  unfold B
  rw [val_eq (FB_low vs)]
  unfold FB
  rw [if_neg h]
  split <;> rfl
theorem G_no (vs : List Int) {s : Nat} (h : sm vs s ≠ 0) : G vs s = -1 := by
  unfold G
  rw [val_eq (FG_low vs)]
  unfold FG
  rw [if_neg h, if_neg (fun e => h (by rw [e]; exact sm_zero vs))]
theorem B_yes (vs : List Int) {s : Nat} (h0 : s ≠ 0) (h : sm vs s = 0) : B vs s = best (fun q => decide (sm vs q = 0)) (fun q => 1 + B vs (s - q)) 1 (subs s s) := by
  unfold B
  rw [val_eq (FB_low vs)]
  rw [FB, if_neg h0, if_pos h]
theorem G_yes (vs : List Int) {s : Nat} (h0 : s ≠ 0) (h : sm vs s = 0) : G vs s = best (fun q => decide (0 < G vs q ∧ 0 < G vs (s - q))) (fun q => G vs q + G vs (s - q)) 1 (subs s s) := by
  unfold G
  rw [val_eq (FG_low vs)]
  rw [FG, if_neg h0, if_pos h]
theorem G_zero (vs : List Int) : G vs 0 = 0 := rfl
theorem B_zero (vs : List Int) : B vs 0 = 0 := rfl
theorem G_pos (vs : List Int) {s : Nat} (h0 : s ≠ 0) (h : sm vs s = 0) : 1 ≤ G vs s := by
  rw [G_yes vs h0 h]; exact best_ge _ _ _ _
theorem G_pos_iff (vs : List Int) {s : Nat} (h0 : s ≠ 0) : 0 < G vs s ↔ sm vs s = 0 := by
  constructor
  · intro h
    by_cases e : sm vs s = 0
    · exact e
    · rw [G_no vs e] at h; omega
  · intro h
    have := G_pos vs h0 h; omega
/-- the groups of two parts: at most as many as those of both -/
theorem G_add (vs : List Int) {s p : Nat} (h : sm vs s = 0) (hp : Sb p s) (h0 : 0 < p) (hlt : p < s) (hz : sm vs p = 0) : G vs p + G vs (s - p) ≤ G vs s := by
  have hz2 : sm vs (s - p) = 0 := by rw [sm_sub vs s p hp]; omega
  have h1 := G_pos vs (by omega : p ≠ 0) hz
  have h2 := G_pos vs (by omega : s - p ≠ 0) hz2
  rw [G_yes vs (by omega : s ≠ 0) h]
  exact best_mem _ (fun q => G vs q + G vs (s - q)) _ _ p ((subs_mem s (s + 1) s (by omega) (Sb_refl s) p).2 ⟨h0, hlt, hp⟩) (by simp; omega)
theorem B_G (vs : List Int) : ∀ (n s : Nat), s < n → sm vs s = 0 → B vs s = G vs s
  | 0, s, hn, _ => by omega
  | n + 1, s, hn, h => by
    by_cases h0 : s = 0
    · subst h0; rfl
    have hle : B vs s ≤ G vs s := by
      rw [B_yes vs h0 h]
      rcases best_ex (fun q => decide (sm vs q = 0)) (fun q => 1 + B vs (s - q)) (subs s s) 1 with e | ⟨q, hq, hc, e⟩
      · rw [e]; exact G_pos vs h0 h
      · rw [e]
        have hq := subs_lt hq
        have hc : sm vs q = 0 := of_decide_eq_true hc
        have hz2 : sm vs (s - q) = 0 := by rw [sm_sub vs s q hq.2.2]; omega
        rw [B_G vs n (s - q) (by omega) hz2]
        have h1 := G_pos vs (by omega : q ≠ 0) hc
        have h2 := G_add vs h hq.2.2 hq.1 hq.2.1 hc
        omega
    have hge : G vs s ≤ B vs s := by
      have hb1 : 1 ≤ B vs s := by rw [B_yes vs h0 h]; exact best_ge _ _ _ _
      have hb : ∀ q, 0 < q → q < s → Sb q s → sm vs q = 0 → 1 + G vs (s - q) ≤ B vs s := by
        intro q q0 q1 q2 q3
        have hz2 : sm vs (s - q) = 0 := by rw [sm_sub vs s q q2]; omega
        rw [← B_G vs n (s - q) (by omega) hz2, B_yes vs h0 h]
        exact best_mem _ (fun q => 1 + B vs (s - q)) _ _ q ((subs_mem s (s + 1) s (by omega) (Sb_refl s) q).2 ⟨q0, q1, q2⟩) (by simp [q3])
      rw [G_yes vs h0 h]
      rcases best_ex (fun q => decide (0 < G vs q ∧ 0 < G vs (s - q))) (fun q => G vs q + G vs (s - q)) (subs s s) 1 with e | ⟨p, hp, hc, e⟩
      · rw [e]; exact hb1
      · rw [e]
        have hp := subs_lt hp
        have hc := of_decide_eq_true hc
        have hpz : sm vs p = 0 := (G_pos_iff vs (by omega)).1 hc.1
        rw [show G vs p = B vs p from (B_G vs n p (by omega) hpz).symm, B_yes vs (by omega : p ≠ 0) hpz]
        rcases best_ex (fun q => decide (sm vs q = 0)) (fun q => 1 + B vs (p - q)) (subs p p) 1 with e | ⟨q, hq, hc2, e⟩
        · rw [e]; exact hb p hp.1 hp.2.1 hp.2.2 hpz
        · rw [e]
          have hq := subs_lt hq
          have hqz : sm vs q = 0 := of_decide_eq_true hc2
          have hqs := Sb_trans hq.2.2 hp.2.2
          have hz2 : sm vs (p - q) = 0 := by rw [sm_sub vs p q hq.2.2]; omega
          have hz3 : sm vs (s - q) = 0 := by rw [sm_sub vs s q hqs]; omega
          rw [B_G vs n (p - q) (by omega) hz2]
          have h1 := G_add vs hz3 (sub_sub_Sb hp.2.2 hq.2.2) (by omega) (by omega) hz2
          rw [show s - q - (p - q) = s - p by omega] at h1
          have h2 := hb q hq.1 (by omega) hqs hqz
          omega
    omega
/-- groups that cannot be parted, with a given one in it -/
theorem G_first (vs : List Int) : ∀ (n s i : Nat), s < n → s.testBit i = true → sm vs s = 0 → ∃ p, Sb p s ∧ p.testBit i = true ∧ sm vs p = 0 ∧ G vs p = 1 ∧ (p = s ∨ (p < s ∧ G vs (s - p) + 1 = G vs s))
  | 0, s, i, hn, _, _ => by omega
  | n + 1, s, i, hn, hi, h => by
    have h0 : s ≠ 0 := fun e => by rw [e] at hi; simp at hi
    by_cases h1 : G vs s = 1
    · exact ⟨s, Sb_refl s, hi, h, h1, Or.inl rfl⟩
    have main : ∀ r, Sb r s → 0 < r → r < s → sm vs r = 0 → G vs r + G vs (s - r) = G vs s → r.testBit i = true → ∃ p, Sb p s ∧ p.testBit i = true ∧ sm vs p = 0 ∧ G vs p = 1 ∧ (p = s ∨ (p < s ∧ G vs (s - p) + 1 = G vs s)) := by
      intro r hr r0 r1 hz hg hri
      obtain ⟨p, p1, p2, p3, p4, p5⟩ := G_first vs n r i (by omega) hri hz
      have hps := Sb_trans p1 hr
      have hp0 : p ≠ 0 := fun e => by rw [e] at p2; simp at p2
      have hple := Sb_le p1
      refine ⟨p, hps, p2, p3, p4, Or.inr ⟨by omega, ?_⟩⟩
      rcases p5 with e | ⟨e, e2⟩
      · subst e; omega
      · have a := G_add vs h hps (by omega) (by omega) p3
        have hz2 : sm vs (s - p) = 0 := by rw [sm_sub vs s p hps]; omega
        have hz3 : sm vs (r - p) = 0 := by rw [sm_sub vs r p p1]; omega
        have b := G_add vs hz2 (sub_sub_Sb hr p1) (by omega) (by omega) hz3
        rw [show s - p - (r - p) = s - r by omega] at b
        omega
    have hy := G_yes vs h0 h
    rcases best_ex (fun q => decide (0 < G vs q ∧ 0 < G vs (s - q))) (fun q => G vs q + G vs (s - q)) (subs s s) 1 with e | ⟨q, hq, hc, e⟩
    · rw [e] at hy; exact absurd hy h1
    · rw [e] at hy
      have hq := subs_lt hq
      have hc := of_decide_eq_true hc
      have hqz : sm vs q = 0 := (G_pos_iff vs (by omega)).1 hc.1
      by_cases hqi : q.testBit i = true
      · exact main q hq.2.2 hq.1 hq.2.1 hqz hy.symm hqi
      · have hz2 : sm vs (s - q) = 0 := by rw [sm_sub vs s q hq.2.2]; omega
        refine main (s - q) (sub_Sb hq.2.2) (by omega) (by omega) hz2 ?_ ?_
        · rw [show s - (s - q) = q by omega, hy]; omega
        · rw [sub_bit (s + 1) s q (by omega) hq.2.2, hi, Bool.eq_false_iff.mpr hqi]; rfl
/-- the members of a set -/
def mem (n s : Nat) : List Nat := (List.range n).filter fun i => s.testBit i
def lexLt : List Nat → List Nat → Bool
  | _, [] => false
  | [], _ :: _ => true
  | a :: x, b :: y => if a = b then lexLt x y else decide (a < b)
def pick (c : Nat → Bool) (n : Nat) (g : Nat) (l : List Nat) : Nat := l.foldl (fun g p => if c p = true then (if g = 0 ∨ lexLt (mem n p) (mem n g) = true then p else g) else g) g
theorem pick_cons (c : Nat → Bool) (n g p : Nat) (l : List Nat) : pick c n g (p :: l) = pick c n (if c p = true then (if g = 0 ∨ lexLt (mem n p) (mem n g) = true then p else g) else g) l := rfl
theorem pick_in (c : Nat → Bool) (n : Nat) : ∀ (l : List Nat) (g : Nat), pick c n g l = g ∨ (pick c n g l ∈ l ∧ c (pick c n g l) = true)
  | [], g => Or.inl rfl
  | p :: l, g => by
    rw [pick_cons]
    rcases pick_in c n l (if c p = true then (if g = 0 ∨ lexLt (mem n p) (mem n g) = true then p else g) else g) with h | h
    · by_cases hc : c p = true
      · rw [if_pos hc] at h ⊢
        split at h <;> rename_i h2
        · rw [if_pos h2, h]; exact Or.inr ⟨List.mem_cons_self, hc⟩
        · rw [if_neg h2, h]; exact Or.inl rfl
      · rw [if_neg hc] at h ⊢; exact Or.inl h
    · exact Or.inr ⟨List.mem_cons_of_mem _ h.1, h.2⟩
theorem pick_pos (c : Nat → Bool) (n : Nat) : ∀ (l : List Nat) (g : Nat), (∀ p ∈ l, 0 < p) → (0 < g ∨ ∃ p ∈ l, c p = true) → 0 < pick c n g l
  | [], g, _, h => by
    rcases h with h | ⟨p, hp, _⟩
    · exact h
    · cases hp
  | p :: l, g, hl, h => by
    rw [pick_cons]
    refine pick_pos c n l _ (fun q hq => hl q (List.mem_cons_of_mem _ hq)) ?_
    have hp := hl p List.mem_cons_self
    by_cases hc : c p = true
    · rw [if_pos hc]
      refine Or.inl ?_
      split <;> omega
    · rw [if_neg hc]
      rcases h with h | ⟨q, hq, hcq⟩
      · exact Or.inl h
      · rcases List.mem_cons.1 hq with e | e
        · rw [e] at hcq; exact absurd hcq hc
        · exact Or.inr ⟨q, e, hcq⟩
theorem pick_congr (c c2 : Nat → Bool) (n : Nat) : ∀ (l : List Nat) (g : Nat), (∀ p ∈ l, c p = c2 p) → pick c n g l = pick c2 n g l
  | [], g, _ => rfl
  | p :: l, g, h => by
    rw [pick_cons, pick_cons, h p List.mem_cons_self]
    exact pick_congr c c2 n l _ (fun q hq => h q (List.mem_cons_of_mem _ hq))
/-- what the code asks of a group, and what the model asks -/
def cI (vs : List Int) (i s p : Nat) : Bool := p.testBit i && decide (sm vs p = 0) && decide (1 + B vs (s - p) = B vs s)
def cS (vs : List Int) (i s p : Nat) : Bool := p.testBit i && decide (G vs p = 1) && decide (if p = s then G vs s = 1 else G vs (s - p) = G vs s - 1)
theorem c_eq (vs : List Int) (i s p : Nat) (h : sm vs s = 0) (hp : Sb p s) (hp0 : 0 < p) : cI vs i s p = cS vs i s p := by
  unfold cI cS
  cases p.testBit i
  · rfl
  rw [Bool.true_and, Bool.true_and, Bool.eq_iff_iff, Bool.and_eq_true, Bool.and_eq_true, decide_eq_true_iff, decide_eq_true_iff, decide_eq_true_iff, decide_eq_true_iff]
  have hle := Sb_le hp
  have e1 : B vs s = G vs s := B_G vs (s + 1) s (by omega) h
  by_cases hz : sm vs p = 0
  · have hz2 : sm vs (s - p) = 0 := by rw [sm_sub vs s p hp]; omega
    have e2 : B vs (s - p) = G vs (s - p) := B_G vs (s + 1) (s - p) (by omega) hz2
    have g1 := G_pos vs (by omega : p ≠ 0) hz
    rw [e1, e2]
    by_cases e : p = s
    · subst e
      rw [if_pos rfl, Nat.sub_self, G_zero]
      constructor
      · intro h; exact ⟨by omega, by omega⟩
      · intro h; exact ⟨hz, by omega⟩
    · rw [if_neg e]
      have a := G_add vs h hp hp0 (by omega) hz
      constructor
      · intro h; exact ⟨by omega, by omega⟩
      · intro h; exact ⟨hz, by omega⟩
  · have := G_no vs hz
    constructor
    · intro h; exact absurd h.1 hz
    · intro h; omega
/-- the first group of a set -/
def first (vs : List Int) (n i s : Nat) : Nat := pick (cS vs i s) n 0 (s :: subs s s)
theorem first_I (vs : List Int) (n i s : Nat) (h : sm vs s = 0) (h0 : 0 < s) : pick (cI vs i s) n 0 (s :: subs s s) = first vs n i s := by
  refine pick_congr _ _ n _ 0 (fun p hp => ?_)
  rcases List.mem_cons.1 hp with e | e
  · subst e; exact c_eq vs i _ _ h (Sb_refl _) h0
  · have := subs_lt e
    exact c_eq vs i s p h this.2.2 this.1
theorem first_spec (vs : List Int) (n i s : Nat) (h : sm vs s = 0) (hi : s.testBit i = true) :
    0 < first vs n i s ∧ Sb (first vs n i s) s ∧ sm vs (first vs n i s) = 0 ∧ G vs (first vs n i s) = 1 ∧ G vs (s - first vs n i s) + 1 = G vs s := by
  have h0 : s ≠ 0 := fun e => by rw [e] at hi; simp at hi
  have hmem : ∀ p, p ∈ s :: subs s s ↔ (0 < p ∧ Sb p s) := by
    intro p
    rw [List.mem_cons, subs_mem s (s + 1) s (by omega) (Sb_refl s)]
    constructor
    · rintro (e | e)
      · subst e; exact ⟨by omega, Sb_refl _⟩
      · exact ⟨e.1, e.2.2⟩
    · rintro ⟨a, b⟩
      have := Sb_le b
      by_cases e : p = s
      · exact Or.inl e
      · exact Or.inr ⟨a, by omega, b⟩
  have hpos : 0 < first vs n i s := by
    refine pick_pos _ n _ 0 (fun p hp => ((hmem p).1 hp).1) (Or.inr ?_)
    obtain ⟨p, p1, p2, p3, p4, p5⟩ := G_first vs (s + 1) s i (by omega) hi h
    have hp0 : p ≠ 0 := fun e => by rw [e] at p2; simp at p2
    refine ⟨p, (hmem p).2 ⟨by omega, p1⟩, ?_⟩
    unfold cS
    rw [p2, decide_eq_true p4, Bool.true_and, Bool.true_and]
    apply decide_eq_true
    rcases p5 with e | ⟨e, e2⟩
    · subst e; rw [if_pos rfl]; exact p4
    · rw [if_neg (by omega)]; omega
  rcases pick_in (cS vs i s) n (s :: subs s s) 0 with e | ⟨e, ec⟩
  · have e' : first vs n i s = 0 := e
    omega
  · have e : first vs n i s ∈ s :: subs s s := e
    have ec : cS vs i s (first vs n i s) = true := ec
    have hm := (hmem _).1 e
    have hle := Sb_le hm.2
    unfold cS at ec
    rw [Bool.and_eq_true, Bool.and_eq_true] at ec
    have hg := of_decide_eq_true ec.1.2
    have hc := of_decide_eq_true ec.2
    refine ⟨hpos, hm.2, (G_pos_iff vs (by omega)).1 (by omega), hg, ?_⟩
    by_cases eq : first vs n i s = s
    · rw [if_pos eq] at hc
      rw [eq, Nat.sub_self, G_zero]; omega
    · rw [if_neg eq] at hc; omega
end Go.Proofs.YtcghnnhhgngddaaDoor.PuSubZeroGroups
