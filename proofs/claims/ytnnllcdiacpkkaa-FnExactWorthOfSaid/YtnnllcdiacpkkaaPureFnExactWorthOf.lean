/- For every integer kind the program's WorthOf returns what the reference's returns; no condition. -/
import Derived.Test.YtnnllcdiacpkkaaPFnExactWorthOfx1
namespace Go.Proofs.Ytnnllcdiacpkkaa.Pure
open Go.RowKit Go.Proofs.Ytnnllcdiacpkkaa.PFnExactWorthOf Go.Proofs.YtnnllcdiacpkkaaW.PrintWords Go.Proofs.YtnnllcdiacpkkaaW.PrintLast

theorem FnExactWorthOf : laws_FnExactWorthOf.Pure := by
  intro a _
  by_cases h : 0 ≤ a ∧ a ≤ 5
  · obtain ⟨h0, h1⟩ := h
    obtain rfl | rfl | rfl | rfl | rfl | rfl : a = 0 ∨ a = 1 ∨ a = 2 ∨ a = 3 ∨ a = 4 ∨ a = 5 := by omega
    all_goals decide
  · unfold laws_FnExactWorthOf.f spec_WorthOf.f impl_WorthOf.f spec_l01Kind.f spec_l00In.f impl_isKind.f
    by_cases h0 : a ≥ 0
    · have h1 : ¬ a ≤ 5 := by omega
      simp [h0, h1]
    · simp [h0]

end Go.Proofs.Ytnnllcdiacpkkaa.Pure
