/- Tables that are made from below, in rows of one length; bounds of what stands in them. -/
import Derived.Test.YtcghnnhhgngddaaDoorMZeroGroupsx0
import Derived.Test.YtcghnnhhgngddaaDoorEv
import Derived.Test.YtcghnnhhgngddaaDoorPuSubZeroGroups
namespace Go.Proofs.YtcghnnhhgngddaaDoor.PuTabsZeroGroups
open Go.RowKit Go.Proofs.YtcghnnhhgngddaaDoor.MZeroGroups Go.Proofs.YtcghnnhhgngddaaDoorW.PrintWords Go.Proofs.YtcghnnhhgngddaaDoorW.PrintLast Go.Proofs.YtcghnnhhgngddaaDoorW.PrintMore Go.Proofs.YtcghnnhhgngddaaDoor.Evs Go.Proofs.YtcghnnhhgngddaaDoor.PuSubZeroGroups
set_option linter.unusedVariables false
set_option linter.unusedSimpArgs false
def ftab (F : (Nat → Int) → Nat → Int) (N s : Nat) : List Int := tab F s ++ List.replicate (N - s) 0
theorem ft_len (F : (Nat → Int) → Nat → Int) {N s : Nat} (h : s ≤ N) : (ftab F N s).length = N := by
  simp only [ftab, List.length_append, tab_len, List.length_replicate]; omega
theorem ft_rd (F : (Nat → Int) → Nat → Int) {N s j : Nat} (h : j < s) : rd (ftab F N s) (j : Int) = val F j := by
  show (ftab F N s).getD j 0 = _
  unfold ftab
  rw [List.getD_eq_getElem?_getD, List.getElem?_append_left (by rw [tab_len]; exact h), ← List.getD_eq_getElem?_getD]
  exact tab_get F s j h
theorem ft_set {F : (Nat → Int) → Nat → Int} (hF : Low F) {N s : Nat} (h : s < N) : (ftab F N s).set s (val F s) = ftab F N (s + 1) := by
  unfold ftab
  rw [tab_next hF, List.set_append_right _ _ (by rw [tab_len]; omega), tab_len, Nat.sub_self, show N - s = (N - (s + 1)) + 1 by omega, List.replicate_succ, List.set_cons_zero, List.append_assoc]
  rfl
theorem ft_skip {F : (Nat → Int) → Nat → Int} (hF : Low F) {N s : Nat} (h : s < N) (h0 : val F s = 0) : ftab F N s = ftab F N (s + 1) := by
  unfold ftab
  rw [tab_next hF, h0, show N - s = (N - (s + 1)) + 1 by omega, List.replicate_succ, List.append_assoc]
  rfl
theorem rd_set_ne (l : List Int) (s j : Nat) (m : Int) (h : s ≠ j) : rd (l.set s m) (j : Int) = rd l (j : Int) := by
  show (l.set s m).getD j 0 = l.getD j 0
  rw [List.getD_eq_getElem?_getD, List.getElem?_set_ne h, ← List.getD_eq_getElem?_getD]
theorem rd_set_eq (l : List Int) (s : Nat) (m : Int) (h : s < l.length) : rd (l.set s m) (s : Int) = m := by
  show (l.set s m).getD s 0 = m
  rw [List.getD_eq_getElem?_getD, List.getElem?_set_self h]; rfl
theorem ft_first {F : (Nat → Int) → Nat → Int} (h0 : val F 0 = 0) {N : Nat} (h : 0 < N) : List.replicate N 0 = ftab F N 1 := by
  have e : tab F 1 = [val F 0] := rfl
  unfold ftab
  rw [e, h0, show N = (N - 1) + 1 by omega, List.replicate_succ]
  simp
def FS (vs : List Int) (_ : Nat → Int) (s : Nat) : Int := sm vs s
theorem FS_low (vs : List Int) : Low (FS vs) := fun _ _ _ _ => rfl
theorem FS_val (vs : List Int) (s : Nat) : val (FS vs) s = sm vs s := by rw [val_eq (FS_low vs)]; rfl
theorem best_bd (c : Nat → Bool) (v : Nat → Int) (lo hi : Int) : ∀ (l : List Nat) (m : Int), lo ≤ m → m ≤ hi → (∀ q ∈ l, c q = true → v q ≤ hi) → lo ≤ best c v m l ∧ best c v m l ≤ hi
  | l, m, h1, h2, h => by
    have a := best_ge c v l m
    rcases best_ex c v l m with e | ⟨q, hq, hc, e⟩
    · rw [e]; exact ⟨h1, h2⟩
    · have := h q hq hc
      rw [e] at a ⊢
      omega
theorem B_bd (vs : List Int) : ∀ (n s : Nat), s < n → 0 ≤ B vs s ∧ B vs s ≤ s
  | 0, s, h => by omega
  | n + 1, s, h => by
    by_cases h0 : s = 0
    · subst h0; rw [B_zero]; omega
    · by_cases hz : sm vs s = 0
      · rw [B_yes vs h0 hz]
        have := best_bd (fun q => decide (sm vs q = 0)) (fun q => 1 + B vs (s - q)) 1 s (subs s s) 1 (by omega) (by omega) (fun q hq _ => by
          have hq := subs_lt hq
          have := B_bd vs n (s - q) (by omega)
          omega)
        omega
      · rw [B_no vs hz]; omega
theorem G_bd (vs : List Int) : ∀ (n s : Nat), s < n → -1 ≤ G vs s ∧ G vs s ≤ s
  | 0, s, h => by omega
  | n + 1, s, h => by
    by_cases h0 : s = 0
    · subst h0; rw [G_zero]; omega
    · by_cases hz : sm vs s = 0
      · rw [G_yes vs h0 hz]
        have := best_bd (fun q => decide (0 < G vs q ∧ 0 < G vs (s - q))) (fun q => G vs q + G vs (s - q)) 1 s (subs s s) 1 (by omega) (by omega) (fun q hq _ => by
          have hq := subs_lt hq
          have := G_bd vs n (s - q) (by omega)
          have := G_bd vs n q (by omega)
          omega)
        omega
      · rw [G_no vs hz]; omega
theorem sm_bd : ∀ (vs : List Int) (s : Nat), (∀ v ∈ vs, -100000000 ≤ v ∧ v ≤ 100000000) → -100000000 * (vs.length : Int) ≤ sm vs s ∧ sm vs s ≤ 100000000 * (vs.length : Int)
  | [], s, _ => by simp [sm]
  | v :: vs, s, h => by
    have a := sm_bd vs (s / 2) (fun w hw => h w (List.mem_cons_of_mem _ hw))
    have b := h v List.mem_cons_self
    simp only [sm, List.length_cons]
    split <;> omega
theorem sm_all : ∀ vs : List Int, sm vs (2 ^ vs.length - 1) = vs.sum
  | [] => rfl
  | v :: vs => by
    have ih := sm_all vs
    have hp := Nat.two_pow_pos vs.length
    rw [List.length_cons, Nat.pow_succ, List.sum_cons]
    simp only [sm]
    rw [if_pos (by omega), show (2 ^ vs.length * 2 - 1) / 2 = 2 ^ vs.length - 1 by omega, ih]
/-- the sum of a set: that without its lowest member, and that one's -/
def low1 : Nat → Nat → Nat
  | 0, _ => 0
  | f + 1, s => if s % 2 = 1 then 0 else 1 + low1 f (s / 2)
theorem low_sum : ∀ (vs : List Int) (f s : Nat), 0 < s → s < 2 ^ vs.length → s < 2 ^ f → low1 f s < vs.length ∧ sm vs s = sm vs (s &&& (s - 1)) + vs.getD (low1 f s) 0
  | [], f, s, h0, h1, _ => by simp at h1; omega
  | v :: vs, 0, s, h0, _, h2 => by simp at h2; omega
  | v :: vs, f + 1, s, h0, h1, h2 => by
    rw [List.length_cons, Nat.pow_succ] at h1
    rw [Nat.pow_succ] at h2
    have a1 := half_and s (s - 1)
    have a2 := odd_and s (s - 1)
    unfold low1
    simp only [sm, List.length_cons]
    by_cases e : s % 2 = 1
    · have e1 : (s - 1) / 2 = s / 2 := by omega
      have e2 : (s - 1) % 2 = 0 := by omega
      rw [e1, Nat.and_self] at a1
      rw [e2] at a2
      rw [if_pos e, if_pos e, a1, if_neg (by omega)]
      exact ⟨by omega, by simp; omega⟩
    · have e1 : (s - 1) / 2 = s / 2 - 1 := by omega
      have e0 : s % 2 = 0 := by omega
      rw [e1] at a1
      rw [e0] at a2
      obtain ⟨i1, i2⟩ := low_sum vs f (s / 2) (by omega) (by omega) (by omega)
      rw [if_neg e, if_neg e, a1, if_neg (by omega), i2]
      refine ⟨by omega, ?_⟩
      rw [show (v :: vs).getD (1 + low1 f (s / 2)) 0 = vs.getD (low1 f (s / 2)) 0 by rw [Nat.add_comm]; rfl]
      omega
theorem low_eq : ∀ (f g s : Nat), 0 < s → s < 2 ^ f → s < 2 ^ g → low1 f s = low1 g s
  | 0, _, s, h0, h1, _ => by simp at h1; omega
  | _, 0, s, h0, _, h1 => by simp at h1; omega
  | f + 1, g + 1, s, h0, h1, h2 => by
    rw [Nat.pow_succ] at h1 h2
    unfold low1
    by_cases e : s % 2 = 1
    · rw [if_pos e, if_pos e]
    · rw [if_neg e, if_neg e, low_eq f g (s / 2) (by omega) (by omega) (by omega)]
theorem low_ctz : ∀ (f s : Nat), low1 f s = Lib.ctzFrom f s
  | 0, s => rfl
  | f + 1, s => by
    unfold low1 Lib.ctzFrom
    rw [low_ctz f (s / 2)]
/-- the sum over the first of a row -/
theorem sm_take : ∀ (vs : List Int) (k s : Nat), k < vs.length → sm (vs.take (k + 1)) s = sm (vs.take k) s + (if s.testBit k = true then vs.getD k 0 else 0)
  | [], k, s, h => by simp at h
  | v :: vs, 0, s, h => by
    simp only [List.take_succ_cons, List.take_zero, sm, Nat.testBit_zero, decide_eq_true_iff]
    simp
  | v :: vs, k + 1, s, h => by
    have ih := sm_take vs k (s / 2) (by simpa using h)
    simp only [List.take_succ_cons, sm, Nat.testBit_succ] at ih ⊢
    rw [ih]
    show _ = _ + _ + (if (s / 2).testBit k = true then vs.getD k 0 else 0)
    omega
end Go.Proofs.YtcghnnhhgngddaaDoor.PuTabsZeroGroups
