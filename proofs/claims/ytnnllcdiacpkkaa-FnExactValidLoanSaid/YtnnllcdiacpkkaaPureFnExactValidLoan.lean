/- For all loans the program's ValidLoan returns what the reference's returns; no condition. -/
import Derived.Test.YtnnllcdiacpkkaaMSx0
import Derived.Test.YtnnllcdiacpkkaaMSx2
import Derived.Test.YtnnllcdiacpkkaaMSx3
import Derived.Test.YtnnllcdiacpkkaaEv
namespace Go.Proofs.Ytnnllcdiacpkkaa.Pure
open Go.RowKit Go.Proofs.Ytnnllcdiacpkkaa.MS Go.Proofs.YtnnllcdiacpkkaaW.PrintWords Go.Proofs.YtnnllcdiacpkkaaW.PrintLast Go.Proofs.Ytnnllcdiacpkkaa.Evs
set_option linter.unusedVariables false
set_option linter.unusedSimpArgs false

def okAmount (a : Int) : Bool := decide (0 ≤ a ∧ a ≤ 100000000)
def okDay (a : Int) : Bool := decide (0 ≤ a ∧ a ≤ 40000)
theorem amount_i (a : Int) : impl_isAmount.f a = some (okAmount a) := by
  unfold impl_isAmount.f okAmount
  by_cases h : a ≥ 0 <;> simp [h, show (0 ≤ a) = (a ≥ 0) from rfl]
theorem day_i (a : Int) : impl_isDay.f a = some (okDay a) := by
  unfold impl_isDay.f okDay
  by_cases h : a ≥ 0 <;> simp [h, show (0 ≤ a) = (a ≥ 0) from rfl]
theorem amount_s (a : Int) : spec_l03Amount.f a = some (okAmount a) := by
  unfold spec_l03Amount.f spec_l00In.f okAmount
  by_cases h : a ≥ 0 <;> simp [h, show (0 ≤ a) = (a ≥ 0) from rfl]
theorem day_s (a : Int) : spec_l03Day.f a = some (okDay a) := by
  unfold spec_l03Day.f spec_l00In.f okDay
  by_cases h : a ≥ 0 <;> simp [h, show (0 ≤ a) = (a ≥ 0) from rfl]

def okRate (a b : Int) : Bool := decide (1 ≤ b ∧ b ≤ 10000 ∧ 0 ≤ a ∧ a ≤ b)
theorem rate_s (a b : Int) : spec_l03Rate.f a b = some (okRate a b) := by
  unfold spec_l03Rate.f spec_l00In.f okRate
  by_cases h1 : b ≥ 1
  · by_cases h2 : b ≤ 10000
    · by_cases h3 : a ≥ 0
      · simp [h1, h2, h3, show 1 ≤ b from h1, show 0 ≤ a from h3]
      · simp [h1, h2, h3, show ¬ 0 ≤ a from h3]
    · simp [h1, h2]
  · simp [h1, show ¬ 1 ≤ b from h1]
theorem rate_i (a b : Int) : impl_ValidRate.f a b = some (okRate a b) := by
  unfold impl_ValidRate.f okRate
  by_cases h1 : b ≥ 1
  · by_cases h2 : b ≤ 10000
    · by_cases h3 : a ≥ 0
      · simp [h1, h2, h3, show 1 ≤ b from h1, show 0 ≤ a from h3]
      · simp [h1, h2, h3, show ¬ 0 ≤ a from h3]
    · simp [h1, h2]
  · simp [h1, show ¬ 1 ≤ b from h1]

theorem FnExactValidLoan (a b c d e : Int) (_ : (Lit.int .i64 a).wf = true) (_ : (Lit.int .i64 b).wf = true) (_ : (Lit.int .i64 c).wf = true) (_ : (Lit.int .i64 d).wf = true) (_ : (Lit.int .i64 e).wf = true) : laws_FnExactValidLoan.f a b c d e = some true := by
  unfold laws_FnExactValidLoan.f spec_ValidLoan.f spec_l03Ok.f impl_ValidLoan.f laws_toLoan.f laws_toRate.f
  simp only [Option.bind_some, amount_i, day_i, amount_s, day_s, rate_s, rate_i]
  cases okAmount a <;> cases okDay b <;> cases okRate c d <;> cases okDay e <;> rfl
end Go.Proofs.Ytnnllcdiacpkkaa.Pure
