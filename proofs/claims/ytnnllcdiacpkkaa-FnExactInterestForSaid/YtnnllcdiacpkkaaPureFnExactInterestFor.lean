/- For all amounts, rates and days the program's InterestFor returns what the reference's returns; no condition. -/
import Derived.Test.YtnnllcdiacpkkaaMSx0
import Derived.Test.YtnnllcdiacpkkaaMSx2
import Derived.Test.YtnnllcdiacpkkaaMSx3
import Derived.Test.YtnnllcdiacpkkaaMSx6
import Derived.Test.YtnnllcdiacpkkaaMSx7
import Derived.Test.YtnnllcdiacpkkaaMSx8
import Derived.Test.YtnnllcdiacpkkaaEv
namespace Go.Proofs.Ytnnllcdiacpkkaa.Pure
open Go.RowKit Go.Proofs.Ytnnllcdiacpkkaa.MS Go.Proofs.YtnnllcdiacpkkaaW.PrintWords Go.Proofs.YtnnllcdiacpkkaaW.PrintLast Go.Proofs.Ytnnllcdiacpkkaa.Evs
set_option linter.unusedVariables false
set_option linter.unusedSimpArgs false

def okAmount (a : Int) : Bool := decide (0 ≤ a ∧ a ≤ 100000000)
def okDay (a : Int) : Bool := decide (0 ≤ a ∧ a ≤ 40000)
theorem amount_i (a : Int) : impl_isAmount.f a = some (okAmount a) := by
  unfold impl_isAmount.f okAmount
  by_cases h : a ≥ 0 <;> simp [h, show (0 ≤ a) = (a ≥ 0) from rfl]
theorem day_i (a : Int) : impl_isDay.f a = some (okDay a) := by
  unfold impl_isDay.f okDay
  by_cases h : a ≥ 0 <;> simp [h, show (0 ≤ a) = (a ≥ 0) from rfl]
theorem amount_s (a : Int) : spec_l03Amount.f a = some (okAmount a) := by
  unfold spec_l03Amount.f spec_l00In.f okAmount
  by_cases h : a ≥ 0 <;> simp [h, show (0 ≤ a) = (a ≥ 0) from rfl]
theorem day_s (a : Int) : spec_l03Day.f a = some (okDay a) := by
  unfold spec_l03Day.f spec_l00In.f okDay
  by_cases h : a ≥ 0 <;> simp [h, show (0 ≤ a) = (a ≥ 0) from rfl]

def okRate (a b : Int) : Bool := decide (1 ≤ b ∧ b ≤ 10000 ∧ 0 ≤ a ∧ a ≤ b)
theorem rate_s (a b : Int) : spec_l03Rate.f a b = some (okRate a b) := by
  unfold spec_l03Rate.f spec_l00In.f okRate
  by_cases h1 : b ≥ 1
  · by_cases h2 : b ≤ 10000
    · by_cases h3 : a ≥ 0
      · simp [h1, h2, h3, show 1 ≤ b from h1, show 0 ≤ a from h3]
      · simp [h1, h2, h3, show ¬ 0 ≤ a from h3]
    · simp [h1, h2]
  · simp [h1, show ¬ 1 ≤ b from h1]
theorem rate_i (a b : Int) : impl_ValidRate.f a b = some (okRate a b) := by
  unfold impl_ValidRate.f okRate
  by_cases h1 : b ≥ 1
  · by_cases h2 : b ≤ 10000
    · by_cases h3 : a ≥ 0
      · simp [h1, h2, h3, show 1 ≤ b from h1, show 0 ≤ a from h3]
      · simp [h1, h2, h3, show ¬ 0 ≤ a from h3]
    · simp [h1, h2]
  · simp [h1, show ¬ 1 ≤ b from h1]

theorem code_f (k : Nat) (n e a d : Int) : impl_rateCode.f (k + 6) n e [a] [d] = some (if okRate n e then (if okAmount a && okDay d then 0 else 2) else 1) := by
  unfold impl_rateCode.f
  simp only [impl_rateCode.l0, impl_rateCode.l1, amount_i, day_i, rate_i, rd]
  cases hr : okRate n e <;> cases ha : okAmount a <;> cases hd : okDay d <;> simp [wrap64, hr, ha, hd]

theorem interest_some (a n e d : Int) (h : okRate n e = true) : ∃ x, spec_l03Interest.f a n e d = some x := by
  have g := of_decide_eq_true h
  unfold spec_l03Interest.f
  rw [wrap_id (x := e * 365) (by omega) (by omega), if_neg (by omega)]
  exact ⟨_, rfl⟩
theorem FnExactInterestFor (a n e d : Int) (_ : (Lit.int .i64 a).wf = true) (_ : (Lit.int .i64 n).wf = true) (_ : (Lit.int .i64 e).wf = true) (_ : (Lit.int .i64 d).wf = true) : ∃ k, laws_FnExactInterestFor.f k a n e d = some true := by
  refine ⟨6, ?_⟩
  have hc := code_f 0 n e a d
  unfold laws_FnExactInterestFor.f spec_InterestFor.f impl_InterestFor.f laws_toRate.f spec_l03Asked.f
  simp only [Option.bind_some, rate_s, amount_s, day_s, show ((0 : Nat) + 6) = 6 from rfl] at hc ⊢
  rw [hc]
  cases hr : okRate n e
  · simp
  · obtain ⟨x, hx⟩ := interest_some a n e d hr
    have hi : impl_interest.f a n e d = some x := hx
    cases ha : okAmount a <;> cases hd : okDay d <;> simp [hx, hi, spec_l03Told.f, impl_limited.f]
    by_cases h : x > 100000000 <;> simp [h]
end Go.Proofs.Ytnnllcdiacpkkaa.Pure
