/- Numbers of nine and of ten digits. -/
import Derived.Test.YtfjmljgbdejghaaDoorMReadHalfx0
import Derived.Test.YtfjmljgbdejghaaDoorVReadHalfEv
import Derived.Test.YtfjmljgbdejghaaDoorPuBytReadHalf
import Derived.Test.YtfjmljgbdejghaaDoorPuWordsReadHalf
import Derived.Test.YtfjmljgbdejghaaDoorPuNumReadHalf
namespace Go.Proofs.YtfjmljgbdejghaaDoor.PuBigReadHalf
open Go.RowKit Go.Proofs.YtfjmljgbdejghaaDoor.MReadHalf Go.Proofs.YtfjmljgbdejghaaDoorW.PrintWords Go.Proofs.YtfjmljgbdejghaaDoorW.PrintLast Go.Proofs.YtfjmljgbdejghaaDoor.Evs Go.Proofs.YtfjmljgbdejghaaDoor.PuBytReadHalf Go.Proofs.YtfjmljgbdejghaaDoor.PuWordsReadHalf Go.Proofs.YtfjmljgbdejghaaDoor.PuNumReadHalf
set_option linter.unusedVariables false
set_option linter.unusedSimpArgs false

/-! numbers of nine and of ten digits -/
theorem valF_ge : ∀ (w : List UInt8) (n : Nat), n * 10 ^ w.length ≤ valF n w
  | [], n => by simp [valF]
  | b :: w, n => by
    show _ ≤ valF (10 * n + (b.toNat - 48)) w
    have := valF_ge w (10 * n + (b.toNat - 48))
    have h2 : n * 10 ^ (b :: w).length = (10 * n) * 10 ^ w.length := by rw [List.length_cons, Nat.pow_succ]; rw [Nat.mul_comm 10 n, Nat.mul_assoc, Nat.mul_comm 10]
    rw [h2]
    exact Nat.le_trans (Nat.mul_le_mul_right _ (by omega)) this
theorem num_9_10 (w : List UInt8) (h : (numOf 9 w).2 = true) : numOf 10 w = numOf 9 w := by
  unfold numOf at h ⊢
  by_cases h1 : w = [] ∨ 9 < w.length ∨ (w.head? = some 48 ∧ 1 < w.length)
  · rw [if_pos h1] at h; cases h
  · rw [if_neg h1, if_neg]
    rintro (h2 | h2 | h2)
    · exact h1 (.inl h2)
    · exact h1 (.inr (.inl (by omega)))
    · exact h1 (.inr (.inr h2))
theorem num_big (w : List UInt8) (h : (numOf 9 w).2 = false) (h2 : (numOf 10 w).2 = true) : 1000000000 ≤ (numOf 10 w).1 := by
  unfold numOf at h h2 ⊢
  by_cases h1 : w = [] ∨ 10 < w.length ∨ (w.head? = some 48 ∧ 1 < w.length)
  · rw [if_pos h1] at h2; cases h2
  rw [if_neg h1] at h2 ⊢
  by_cases hd : digs w = true
  · rw [if_pos hd]
    by_cases h9 : w = [] ∨ 9 < w.length ∨ (w.head? = some 48 ∧ 1 < w.length)
    · rcases h9 with h9 | h9 | h9
      · exact absurd (.inl h9) h1
      · cases w with
        | nil => simp at h9
        | cons b t =>
          have hb : digs (b :: t) = true := hd
          simp only [digs, List.all_cons, Bool.and_eq_true] at hb
          have hb2 : 48 ≤ b.toNat ∧ b.toNat ≤ 57 := by simpa [isD] using hb.1
          have hne : b.toNat ≠ 48 := fun e => h1 (.inr (.inr ⟨by
            have : b = 48 := UInt8.toNat_inj.1 (by have h48 : (48 : UInt8).toNat = 48 := rfl; omega)
            rw [this]; rfl, by omega⟩))
          have hv := valF_ge t (10 * 0 + (b.toNat - 48))
          have hp : 10 ^ 9 ≤ 10 ^ t.length := Nat.pow_le_pow_right (by omega) (by simp at h9; omega)
          have hm : 1 * 10 ^ t.length ≤ (10 * 0 + (b.toNat - 48)) * 10 ^ t.length := Nat.mul_le_mul_right _ (by omega)
          have : valF 0 (b :: t) = valF (10 * 0 + (b.toNat - 48)) t := rfl
          show (1000000000 : Int) ≤ ((valF 0 (b :: t) : Nat) : Int)
          rw [this]
          omega
      · exact absurd (.inr (.inr h9)) h1
    · rw [if_neg h9, if_pos hd] at h; cases h
  · rw [if_neg hd] at h2; cases h2
end Go.Proofs.YtfjmljgbdejghaaDoor.PuBigReadHalf
