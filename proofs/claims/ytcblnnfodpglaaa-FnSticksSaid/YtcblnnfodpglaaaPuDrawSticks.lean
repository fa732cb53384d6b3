/- What is drawn from bytes. -/
import Derived.Test.YtcblnnfodpglaaaMSticksx0
import Derived.Test.YtcblnnfodpglaaaMSticksx11
import Derived.Test.YtcblnnfodpglaaaMSticksx8
import Derived.Laws.BitsAllLaws
import Derived.Test.YtcblnnfodpglaaaVSticksEv
import Derived.Test.YtcblnnfodpglaaaPuDebtSticks
namespace Go.Proofs.Ytcblnnfodpglaaa.PuDrawSticks
open Go.RowKit Go.Proofs.Ytcblnnfodpglaaa.MSticks Go.Proofs.YtcblnnfodpglaaaW.PrintWords Go.Proofs.YtcblnnfodpglaaaW.PrintLast Go.Proofs.Ytcblnnfodpglaaa.Evs Go.Proofs.Ytcblnnfodpglaaa.PuDebtSticks
set_option linter.unusedVariables false
set_option linter.unusedSimpArgs false
def byteL (c : List Int) : Prop := c.length ≤ 100000 ∧ ∀ x ∈ c, 0 ≤ x ∧ x ≤ 255
theorem rd_byte {c : List Int} (h : byteL c) (i : Int) : 0 ≤ rd c i ∧ rd c i ≤ 255 := by
  show 0 ≤ c.getD i.toNat 0 ∧ c.getD i.toNat 0 ≤ 255
  by_cases hi : i.toNat < c.length
  · rw [getD_lt c 0 _ hi]; exact h.2 _ (List.getElem_mem hi)
  · rw [List.getD_eq_getElem?_getD, List.getElem?_eq_none (by omega)]; simp
theorem u64w (x : Int) : 0 ≤ IntKind.u64.wrap x ∧ IntKind.u64.wrap x < 18446744073709551616 := by
  have e : IntKind.u64.wrap x = x % 18446744073709551616 := by
    simp [IntKind.wrap, IntKind.bits, IntKind.signed]
  rw [e]; omega
theorem and255 (x : Int) : 0 ≤ wrap64 (Go.bits .and .u64 (IntKind.u64.wrap x / 1099511627776) 255) ∧ wrap64 (Go.bits .and .u64 (IntKind.u64.wrap x / 1099511627776) 255) ≤ 255 := by
  have h := u64w x
  rw [u64_and _ _ (by omega) (by omega) (by omega) (by omega)]
  have h2 : (IntKind.u64.wrap x / 1099511627776).toNat &&& (255 : Int).toNat ≤ (255 : Int).toNat := Nat.and_le_right
  have h3 : ((255 : Int).toNat) = 255 := rfl
  rw [h3] at h2 ⊢
  rw [wrap_id (by omega) (by omega)]
  omega
theorem next_f {c : List Int} (h : byteL c) (i s : Int) (hi : 0 ≤ i) (hi2 : i ≤ 1000000) : ∃ b s2, spec_l00Src_next.f c i s = some (b, i + 1, s2) ∧ 0 ≤ b ∧ b ≤ 255 := by
  have hr := rd_byte h i
  have hw : wrap64 (rd c i) = rd c i := wrap_id (by omega) (by omega)
  have hw2 : wrap64 (i + 1) = i + 1 := wrap_id (by omega) (by omega)
  unfold spec_l00Src_next.f
  rw [hw2]
  by_cases h1 : i < (c.length : Int)
  · rw [if_pos h1, if_pos hi]
    by_cases h2 : i + 1 ≤ (c.length : Int)
    · rw [if_pos h2, hw]; exact ⟨_, _, rfl, hr.1, hr.2⟩
    · rw [if_neg h2]
      exact ⟨_, _, rfl, (and255 _).1, (and255 _).2⟩
  · rw [if_neg h1]
    by_cases h2 : i + 1 ≤ (c.length : Int)
    · rw [if_pos h2]; exact ⟨_, _, rfl, by omega, by omega⟩
    · rw [if_neg h2]
      exact ⟨_, _, rfl, (and255 _).1, (and255 _).2⟩
theorem pick_f {c : List Int} (h : byteL c) (i s n : Int) (hi : 0 ≤ i) (hi2 : i ≤ 1000000) (hn : 1 ≤ n) (hn2 : n ≤ 200) : ∃ x i2 s2, spec_l00Src_pick.f c i s n = some (x, i2, s2) ∧ 0 ≤ x ∧ x < n ∧ i ≤ i2 ∧ i2 ≤ i + 1 := by
  unfold spec_l00Src_pick.f
  by_cases h1 : n ≤ 1
  · rw [if_pos h1]; exact ⟨_, _, _, rfl, by omega, by omega, by omega, by omega⟩
  · rw [if_neg h1]
    obtain ⟨b, s2, e, hb, hb2⟩ := next_f h i s hi hi2
    rw [e]
    simp only [Option.bind_some]
    rw [if_neg (by omega), if_neg (by omega)]
    refine ⟨_, _, _, rfl, ?_, ?_, by omega, by omega⟩
    · exact Int.tmod_nonneg _ hb
    · exact Int.tmod_lt_of_pos _ (by omega)
theorem pick2_f {c : List Int} (h : byteL c) (i s n : Int) (hi : 0 ≤ i) (hi2 : i ≤ 999999) (hn : 201 ≤ n) : ∃ x i2 s2, spec_l00Src_pick.f c i s n = some (x, i2, s2) ∧ 0 ≤ x ∧ x < n ∧ i2 = i + 2 := by
  unfold spec_l00Src_pick.f
  rw [if_neg (by omega)]
  obtain ⟨b, s2, e, hb, hb2⟩ := next_f h i s hi (by omega)
  rw [e]
  simp only [Option.bind_some]
  rw [if_pos (by omega)]
  obtain ⟨b3, s3, e3, hb3, hb4⟩ := next_f h (i + 1) s2 (by omega) (by omega)
  rw [e3]
  simp only [Option.bind_some]
  rw [if_neg (by omega), wrap_id (x := b * 256) (by omega) (by omega), wrap_id (by omega) (by omega)]
  refine ⟨_, _, _, rfl, ?_, ?_, by omega⟩
  · exact Int.tmod_nonneg _ (by omega)
  · exact Int.tmod_lt_of_pos _ (by omega)
theorem to_ok (a y p : Int) (hp : 2 ≤ p) (hp2 : p ≤ 6) (ha : 0 ≤ a) (ha2 : a < p) (hy : 0 ≤ y) (hy2 : y < p - 1) : 0 ≤ Int.tmod (wrap64 (wrap64 (a + 1) + y)) p ∧ Int.tmod (wrap64 (wrap64 (a + 1) + y)) p < p ∧ a ≠ Int.tmod (wrap64 (wrap64 (a + 1) + y)) p := by
  rw [wrap_id (x := a + 1) (by omega) (by omega), wrap_id (by omega) (by omega), Int.tmod_eq_emod_of_nonneg (by omega)]
  have : p = 2 ∨ p = 3 ∨ p = 4 ∨ p = 5 ∨ p = 6 := by omega
  rcases this with rfl | rfl | rfl | rfl | rfl <;> refine ⟨?_, ?_, ?_⟩ <;> omega
theorem at_f {c : List Int} (h : byteL c) (i n : Int) (hi : 0 ≤ i) (hn : 1 ≤ n) : ∃ x, laws_a2At.f c i n = some x ∧ 0 ≤ x ∧ x < n := by
  unfold laws_a2At.f
  have hr := rd_byte h i
  by_cases h1 : i ≥ (c.length : Int)
  · rw [if_pos h1]; exact ⟨_, rfl, by omega, by omega⟩
  · rw [if_neg h1, if_neg (by omega), if_pos hi, if_pos (by omega), if_neg (by omega), wrap_id (by omega) (by omega)]
    exact ⟨_, rfl, Int.tmod_nonneg _ hr.1, Int.tmod_lt_of_pos _ (by omega)⟩

end Go.Proofs.Ytcblnnfodpglaaa.PuDrawSticks
