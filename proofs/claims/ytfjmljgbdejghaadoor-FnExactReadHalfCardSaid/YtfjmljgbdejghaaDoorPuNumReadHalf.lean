/- Numbers that are read from words: the program's and the reference's, and the numeral of a number is read as that number. -/
import Derived.Test.YtfjmljgbdejghaaDoorMReadHalfx0
import Derived.Test.YtfjmljgbdejghaaDoorMReadHalfx4
import Derived.Test.YtfjmljgbdejghaaDoorMReadHalfx6
import Derived.Test.YtfjmljgbdejghaaDoorVReadHalfEv
import Derived.Test.YtfjmljgbdejghaaDoorPuBytReadHalf
import Derived.Test.YtfjmljgbdejghaaDoorPuWordsReadHalf
namespace Go.Proofs.YtfjmljgbdejghaaDoor.PuNumReadHalf
open Go.RowKit Go.Proofs.YtfjmljgbdejghaaDoor.MReadHalf Go.Proofs.YtfjmljgbdejghaaDoorW.PrintWords Go.Proofs.YtfjmljgbdejghaaDoorW.PrintLast Go.Proofs.YtfjmljgbdejghaaDoor.Evs Go.Proofs.YtfjmljgbdejghaaDoor.PuBytReadHalf Go.Proofs.YtfjmljgbdejghaaDoor.PuWordsReadHalf
set_option linter.unusedVariables false
set_option linter.unusedSimpArgs false

def isD (b : UInt8) : Bool := decide (48 ≤ b.toNat ∧ b.toNat ≤ 57)
def digs (w : List UInt8) : Bool := w.all isD
theorem not_digs (b : UInt8) (w : List UInt8) (h : ¬ (48 ≤ b.toNat ∧ b.toNat ≤ 57)) : ¬ digs (b :: w) = true := by
  intro e
  simp only [digs, List.all_cons, Bool.and_eq_true] at e
  exact h (of_decide_eq_true (show decide (48 ≤ b.toNat ∧ b.toNat ≤ 57) = true from e.1))
def valF (n : Nat) (w : List UInt8) : Nat := w.foldl (fun n b => 10 * n + (b.toNat - 48)) n
theorem valF_append (n : Nat) (a b : List UInt8) : valF n (a ++ b) = valF (valF n a) b := by simp [valF]
theorem valF_lt : ∀ (w : List UInt8) (n m : Nat), n < 10 ^ m → digs w = true → valF n w < 10 ^ (m + w.length)
  | [], n, m, h, _ => by simpa [valF] using h
  | b :: w, n, m, h, hd => by
    simp only [digs, List.all_cons, Bool.and_eq_true] at hd
    have hb : 48 ≤ b.toNat ∧ b.toNat ≤ 57 := by simpa [isD] using hd.1
    show valF (10 * n + (b.toNat - 48)) w < _
    have h1 : 10 * n + (b.toNat - 48) < 10 ^ (m + 1) := by rw [Nat.pow_succ]; omega
    have := valF_lt w _ _ h1 hd.2
    rw [List.length_cons, show m + (w.length + 1) = m + 1 + w.length by omega]
    exact this
/-- a number in words of at most m digits -/
def numOf (m : Nat) (w : List UInt8) : Int × Bool :=
  if w = [] ∨ m < w.length ∨ (w.head? = some 48 ∧ 1 < w.length) then (0, false) else if digs w = true then ((valF 0 w : Nat), true) else (0, false)
def tailN (n : Nat) (w : List UInt8) : Int × Bool := if digs w = true then ((valF n w : Nat), true) else (0, false)
theorem digit_step (b : UInt8) (h : 48 ≤ b.toNat ∧ b.toNat ≤ 57) : (((b.toNat : Int) - 48) % 256) = ((b.toNat - 48 : Nat) : Int) := by omega
theorem loopS (w : List UInt8) (hw : w.length ≤ 10) : Ev (fun k => spec_l01Number.l0 k (mkB w) 0 0) (tailN 0 w) := by
  have key := ev_forI (σ := Nat) (n := w.length) (G := fun k s i => spec_l01Number.l0 k (mkB w) (s : Int) i) (F := fun s i => tailN s (w.drop i)) (I := fun s i => s < 10 ^ i) ?_ ?_ 0 (by omega) 0 (by decide)
  · exact key
  · intro i hi ih s hs
    have hp : 10 ^ i ≤ 10 ^ 9 := Nat.pow_le_pow_right (by omega) (by omega)
    refine Ev.step (fun k => by simp only [spec_l01Number.l0]; rfl) ?_
    refine ev_pos (by rw [mkB_size]; omega) (ev_pos (by omega) ?_)
    rw [bt_mk w i hi, List.drop_eq_getElem_cons hi]
    by_cases h1 : (w[i]).toNat < 48
    · refine ev_pos (by omega) ?_
      have : tailN s (w[i] :: w.drop (i + 1)) = (0, false) := by
        unfold tailN
        rw [if_neg (not_digs _ _ (by omega))]
      rw [this]; exact Ev.now _
    refine ev_neg (by omega) ?_
    by_cases h2 : 57 < (w[i]).toNat
    · refine ev_pos (by omega) ?_
      have : tailN s (w[i] :: w.drop (i + 1)) = (0, false) := by
        unfold tailN
        rw [if_neg (not_digs _ _ (by omega))]
      rw [this]; exact Ev.now _
    refine ev_neg (by omega) ?_
    have hb : 48 ≤ (w[i]).toNat ∧ (w[i]).toNat ≤ 57 := by omega
    rw [digit_step _ hb, wrap_id (x := 10 * (s : Int)) (by omega) (by omega), wrap_id (by omega) (by omega), wrap_up hi (by omega)]
    have := ih (10 * s + ((w[i]).toNat - 48)) (by rw [Nat.pow_succ]; omega)
    rw [show (((10 * s + ((w[i]).toNat - 48) : Nat)) : Int) = 10 * (s : Int) + (((w[i]).toNat - 48 : Nat) : Int) by omega] at this
    refine ev_eq this ?_
    unfold tailN
    have e : digs (w[i] :: w.drop (i + 1)) = digs (w.drop (i + 1)) := by
      unfold digs; rw [List.all_cons]; simp [isD, hb]
    rw [e]; rfl
  · intro s hs
    refine Ev.step (fun k => by simp only [spec_l01Number.l0]; rfl) ?_
    refine ev_neg (by rw [mkB_size]; omega) ?_
    rw [List.drop_length]
    exact Ev.now _
theorem loopI (w : List UInt8) (hw : w.length ≤ 10) : Ev (fun k => impl_number.l0 k (mkB w) 0 (w.length : Int) 0) (tailN 0 w) := by
  have key := ev_forI (σ := Nat) (n := w.length) (G := fun k s i => impl_number.l0 k (mkB w) (s : Int) (w.length : Int) i) (F := fun s i => tailN s (w.drop i)) (I := fun s i => s < 10 ^ i) ?_ ?_ 0 (by omega) 0 (by decide)
  · exact key
  · intro i hi ih s hs
    have hp : 10 ^ i ≤ 10 ^ 9 := Nat.pow_le_pow_right (by omega) (by omega)
    refine Ev.step (fun k => by simp only [impl_number.l0]; rfl) ?_
    refine ev_pos (by omega) (ev_pos (by omega) (ev_pos (by rw [mkB_size]; omega) ?_))
    rw [bt_mk w i hi, List.drop_eq_getElem_cons hi]
    by_cases h1 : (w[i]).toNat < 48
    · refine ev_pos (by omega) ?_
      have : tailN s (w[i] :: w.drop (i + 1)) = (0, false) := by
        unfold tailN
        rw [if_neg (not_digs _ _ (by omega))]
      rw [this]; exact Ev.now _
    refine ev_neg (by omega) ?_
    by_cases h2 : 57 < (w[i]).toNat
    · refine ev_pos (by omega) ?_
      have : tailN s (w[i] :: w.drop (i + 1)) = (0, false) := by
        unfold tailN
        rw [if_neg (not_digs _ _ (by omega))]
      rw [this]; exact Ev.now _
    refine ev_neg (by omega) ?_
    have hb : 48 ≤ (w[i]).toNat ∧ (w[i]).toNat ≤ 57 := by omega
    rw [digit_step _ hb, wrap_id (x := (s : Int) * 10) (by omega) (by omega), wrap_id (by omega) (by omega), wrap_up hi (by omega)]
    have := ih (10 * s + ((w[i]).toNat - 48)) (by rw [Nat.pow_succ]; omega)
    rw [show (((10 * s + ((w[i]).toNat - 48) : Nat)) : Int) = (s : Int) * 10 + (((w[i]).toNat - 48 : Nat) : Int) by omega] at this
    refine ev_eq this ?_
    unfold tailN
    have e : digs (w[i] :: w.drop (i + 1)) = digs (w.drop (i + 1)) := by
      unfold digs; rw [List.all_cons]; simp [isD, hb]
    rw [e]; rfl
  · intro s hs
    refine Ev.step (fun k => by simp only [impl_number.l0]; rfl) ?_
    refine ev_neg (by omega) ?_
    rw [List.drop_length]
    exact Ev.now _
theorem bt0 (b : UInt8) (w : List UInt8) : bt (mkB (b :: w)) 0 = (b.toNat : Int) := bt_mk (b :: w) 0 (by simp)
theorem numS_ev (w : List UInt8) : Ev (fun k => spec_l01Number.f k (mkB w)) (numOf 10 w) := by
  unfold spec_l01Number.f
  rw [mkB_toList, mkB_size]
  cases w with
  | nil =>
    refine ev_pos rfl (Ev.step (fun k => by simp only [spec_l01Number.j0]; rfl) (ev_pos (c := (true = true)) rfl ?_))
    exact Ev.now _
  | cons b w =>
    refine ev_neg (by simp) ?_
    by_cases h1 : (10 : Int) < ((b :: w).length : Int)
    · refine ev_pos h1 (Ev.step (fun k => by simp only [spec_l01Number.j0]; rfl) (ev_pos (c := (true = true)) rfl ?_))
      have : numOf 10 (b :: w) = (0, false) := by unfold numOf; rw [if_pos (.inr (.inl (by omega)))]
      rw [this]; exact Ev.now _
    refine ev_neg h1 (ev_pos (by rw [List.length_cons]; omega) ?_)
    rw [bt0]
    by_cases h2 : b = 48 ∧ 1 < (b :: w).length
    · refine ev_pos (by rw [h2.1]; rfl) (Ev.step (fun k => by simp only [spec_l01Number.j0]; rfl) (ev_pos (decide_eq_true (by have := h2.2; omega)) ?_))
      have : numOf 10 (b :: w) = (0, false) := by unfold numOf; rw [if_pos (.inr (.inr ⟨by rw [h2.1]; rfl, h2.2⟩))]
      rw [this]; exact Ev.now _
    have e : numOf 10 (b :: w) = tailN 0 (b :: w) := by
      unfold numOf tailN
      rw [if_neg]
      rintro (h | h | ⟨h, h'⟩)
      · simp at h
      · omega
      · exact h2 ⟨by simpa using h, h'⟩
    rw [e]
    have hl := loopS (b :: w) (by omega)
    by_cases h3 : (b.toNat : Int) = 48
    · have hb : b = 48 := UInt8.toNat_inj.1 (by have h48 : (48 : UInt8).toNat = 48 := rfl; omega)
      have : ¬ 1 < (b :: w).length := fun h => h2 ⟨hb, h⟩
      refine ev_pos h3 (Ev.step (fun k => by simp only [spec_l01Number.j0]; rfl) (ev_neg (fun e => this (by have := of_decide_eq_true e; omega)) hl))
    · exact ev_neg h3 (Ev.step (fun k => by simp only [spec_l01Number.j0]; rfl) (ev_neg (by simp) hl))
theorem numI_ev (w : List UInt8) : Ev (fun k => impl_number.f k (mkB w)) (numOf 9 w) := by
  unfold impl_number.f
  rw [mkB_toList, mkB_size]
  cases w with
  | nil =>
    refine ev_pos rfl (Ev.step (fun k => by simp only [impl_number.j0]; rfl) (ev_pos (c := (true = true)) rfl ?_))
    exact Ev.now _
  | cons b w =>
    refine ev_neg (by simp) ?_
    by_cases h1 : (9 : Int) < ((b :: w).length : Int)
    · refine ev_pos h1 (Ev.step (fun k => by simp only [impl_number.j0]; rfl) (ev_pos (c := (true = true)) rfl ?_))
      have : numOf 9 (b :: w) = (0, false) := by unfold numOf; rw [if_pos (.inr (.inl (by omega)))]
      rw [this]; exact Ev.now _
    refine ev_neg h1 (ev_pos (by rw [List.length_cons]; omega) ?_)
    rw [bt0]
    by_cases h2 : b = 48 ∧ 1 < (b :: w).length
    · refine ev_pos (by rw [h2.1]; rfl) (Ev.step (fun k => by simp only [impl_number.j0]; rfl) (ev_pos (decide_eq_true (by have := h2.2; omega)) ?_))
      have : numOf 9 (b :: w) = (0, false) := by unfold numOf; rw [if_pos (.inr (.inr ⟨by rw [h2.1]; rfl, h2.2⟩))]
      rw [this]; exact Ev.now _
    have e : numOf 9 (b :: w) = tailN 0 (b :: w) := by
      unfold numOf tailN
      rw [if_neg]
      rintro (h | h | ⟨h, h'⟩)
      · simp at h
      · omega
      · exact h2 ⟨by simpa using h, h'⟩
    rw [e]
    have hl := loopI (b :: w) (by omega)
    rw [show (((b :: w).length : Nat) : Int) = ((mkB (b :: w)).size : Int) by rw [mkB_size]] at hl
    have hs : ((b :: w).length : Int) = ((mkB (b :: w)).size : Int) := by rw [mkB_size]
    by_cases h3 : (b.toNat : Int) = 48
    · have hb : b = 48 := UInt8.toNat_inj.1 (by have h48 : (48 : UInt8).toNat = 48 := rfl; omega)
      have : ¬ 1 < (b :: w).length := fun h => h2 ⟨hb, h⟩
      refine ev_pos h3 (Ev.step (fun k => by simp only [impl_number.j0]; rfl) (ev_neg (fun e => this (by have := of_decide_eq_true e; omega)) hl))
    · exact ev_neg h3 (Ev.step (fun k => by simp only [impl_number.j0]; rfl) (ev_neg (by simp) hl))
/-- the numeral of a number is read as that number -/
theorem dig_byte (n : Nat) : (UInt8.ofNat (48 + n % 10)).toNat = 48 + n % 10 := by
  rw [UInt8.toNat_ofNat']; omega
theorem dec_digs : ∀ n : Nat, digs (Lib.decDigits n) = true := by
  intro n
  induction n using Nat.strongRecOn with
  | ind n ih =>
    by_cases h : n < 10
    · rw [dec_small h, show n = n % 10 by omega]
      simp only [digs, List.all_cons, List.all_nil, Bool.and_true, isD, dig_byte]
      simp; omega
    · rw [dec_big h]
      have := ih (n / 10) (by omega)
      simp only [digs, List.all_append, Bool.and_eq_true] at this ⊢
      refine ⟨this, ?_⟩
      simp only [List.all_cons, List.all_nil, Bool.and_true, isD, dig_byte]
      simp; omega
theorem dec_val : ∀ n : Nat, valF 0 (Lib.decDigits n) = n := by
  intro n
  induction n using Nat.strongRecOn with
  | ind n ih =>
    by_cases h : n < 10
    · rw [dec_small h]
      show 10 * 0 + ((UInt8.ofNat (48 + n)).toNat - 48) = n
      have := dig_byte n
      rw [show n % 10 = n by omega] at this
      rw [this]; omega
    · rw [dec_big h, valF_append, ih (n / 10) (by omega)]
      show 10 * (n / 10) + ((UInt8.ofNat (48 + n % 10)).toNat - 48) = n
      rw [dig_byte]; omega
theorem dec_head : ∀ n : Nat, 1 ≤ n → (Lib.decDigits n).head? ≠ some 48 := by
  intro n
  induction n using Nat.strongRecOn with
  | ind n ih =>
    intro h1
    by_cases h : n < 10
    · rw [dec_small h]
      intro e
      simp only [List.head?_cons, Option.some.injEq] at e
      have := dig_byte n
      rw [show n % 10 = n by omega, e] at this
      have h48 : (48 : UInt8).toNat = 48 := rfl
      omega
    · rw [dec_big h]
      have := ih (n / 10) (by omega) (by omega)
      cases hd : Lib.decDigits (n / 10) with
      | nil => exact absurd hd (dec_ne _)
      | cons b l => rw [hd] at this; simpa using this
theorem num_dec (m : Nat) (n : Nat) (h : (Lib.decDigits n).length ≤ m) : numOf m (Lib.decDigits n) = ((n : Int), true) := by
  unfold numOf
  rw [if_neg, if_pos (dec_digs n), dec_val]
  rintro (h1 | h1 | ⟨h1, h2⟩)
  · exact dec_ne n h1
  · omega
  · by_cases h0 : n = 0
    · subst h0
      rw [dec_small (by omega)] at h2
      simp at h2
    · exact dec_head n (by omega) h1
theorem num_bound (m : Nat) (w : List UInt8) : 0 ≤ (numOf m w).1 ∧ (numOf m w).1 < 10 ^ m := by
  unfold numOf
  split
  · exact ⟨by simp, by simp; exact Int.pow_pos (by omega)⟩
  · rename_i h
    split
    · rename_i hd
      have := valF_lt w 0 0 (by decide) hd
      simp only [not_or] at h
      have hp : 10 ^ (0 + w.length) ≤ 10 ^ m := Nat.pow_le_pow_right (by omega) (by omega)
      refine ⟨by simp, ?_⟩
      have h3 : valF 0 w < 10 ^ m := by omega
      show ((valF 0 w : Nat) : Int) < _
      exact_mod_cast h3
    · exact ⟨by simp, by simp; exact Int.pow_pos (by omega)⟩
end Go.Proofs.YtfjmljgbdejghaaDoor.PuNumReadHalf
