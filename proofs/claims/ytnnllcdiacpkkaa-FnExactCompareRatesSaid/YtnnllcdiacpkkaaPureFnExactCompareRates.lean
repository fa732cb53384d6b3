/- For all rates the program's CompareRates returns what the reference's returns; no condition. -/
import Derived.Test.YtnnllcdiacpkkaaMSx0
import Derived.Test.YtnnllcdiacpkkaaMSx2
import Derived.Test.YtnnllcdiacpkkaaMSx4
import Derived.Test.YtnnllcdiacpkkaaMSx5
import Derived.Test.YtnnllcdiacpkkaaEv
namespace Go.Proofs.Ytnnllcdiacpkkaa.Pure
open Go.RowKit Go.Proofs.Ytnnllcdiacpkkaa.MS Go.Proofs.YtnnllcdiacpkkaaW.PrintWords Go.Proofs.YtnnllcdiacpkkaaW.PrintLast Go.Proofs.Ytnnllcdiacpkkaa.Evs
set_option linter.unusedVariables false
set_option linter.unusedSimpArgs false

def okRate (a b : Int) : Bool := decide (1 ≤ b ∧ b ≤ 10000 ∧ 0 ≤ a ∧ a ≤ b)
theorem rate_s (a b : Int) : spec_l03Rate.f a b = some (okRate a b) := by
  unfold spec_l03Rate.f spec_l00In.f okRate
  by_cases h1 : b ≥ 1
  · by_cases h2 : b ≤ 10000
    · by_cases h3 : a ≥ 0
      · simp [h1, h2, h3, show 1 ≤ b from h1, show 0 ≤ a from h3]
      · simp [h1, h2, h3, show ¬ 0 ≤ a from h3]
    · simp [h1, h2]
  · simp [h1, show ¬ 1 ≤ b from h1]
theorem rate_i (a b : Int) : impl_ValidRate.f a b = some (okRate a b) := by
  unfold impl_ValidRate.f okRate
  by_cases h1 : b ≥ 1
  · by_cases h2 : b ≤ 10000
    · by_cases h3 : a ≥ 0
      · simp [h1, h2, h3, show 1 ≤ b from h1, show 0 ≤ a from h3]
      · simp [h1, h2, h3, show ¬ 0 ≤ a from h3]
    · simp [h1, h2]
  · simp [h1, show ¬ 1 ≤ b from h1]

theorem mul_small {a b : Int} (ha : 0 ≤ a) (ha' : a ≤ 10000) (hb : 0 ≤ b) (hb' : b ≤ 10000) : 0 ≤ a * b ∧ a * b ≤ 100000000 := by
  refine ⟨Int.mul_nonneg ha hb, ?_⟩
  have h1 : a * b ≤ 10000 * b := Int.mul_le_mul_of_nonneg_right ha' hb
  omega
theorem FnExactCompareRates (a b c d : Int) (_ : (Lit.int .i64 a).wf = true) (_ : (Lit.int .i64 b).wf = true) (_ : (Lit.int .i64 c).wf = true) (_ : (Lit.int .i64 d).wf = true) : ∃ k, laws_FnExactCompareRates.f k a b c d = some true := by
  refine ⟨1, ?_⟩
  unfold laws_FnExactCompareRates.f spec_CompareRates.f impl_CompareRates.f laws_toRate.f
  simp only [Option.bind_some, rate_s, rate_i, spec_CompareRates.j0, impl_CompareRates.j0]
  by_cases h1 : okRate a b = true
  · by_cases h2 : okRate c d = true
    · have g1 := of_decide_eq_true h1
      have g2 := of_decide_eq_true h2
      have m1 := mul_small (a := a) (b := d) (by omega) (by omega) (by omega) (by omega)
      have m2 := mul_small (a := c) (b := b) (by omega) (by omega) (by omega) (by omega)
      rw [h1, h2, wrap_id (x := a * d) (by omega) (by omega), wrap_id (x := c * b) (by omega) (by omega), wrap_id (x := a * d - c * b) (by omega) (by omega)]
      by_cases h3 : a * d < c * b
      · simp [h3, show a * d - c * b < 0 by omega]
      · by_cases h4 : a * d > c * b
        · simp [h3, h4, show ¬ a * d - c * b < 0 by omega, show a * d - c * b > 0 by omega]
        · have e : a * d = c * b := by omega
          simp [e]
    · rw [h1, Bool.eq_false_iff.mpr h2]; rfl
  · rw [Bool.eq_false_iff.mpr h1]; rfl
end Go.Proofs.Ytnnllcdiacpkkaa.Pure
