/- For every integer code the program's CodeName returns what the reference's returns; no condition. -/
import Derived.Test.YtnnllcdiacpkkaaPFnExactCodeNamex1
namespace Go.Proofs.Ytnnllcdiacpkkaa.Pure
open Go.RowKit Go.Proofs.Ytnnllcdiacpkkaa.PFnExactCodeName Go.Proofs.YtnnllcdiacpkkaaW.PrintWords Go.Proofs.YtnnllcdiacpkkaaW.PrintLast

theorem FnExactCodeName : laws_FnExactCodeName.Pure := by
  intro a _
  unfold laws_FnExactCodeName.f spec_CodeName.f impl_CodeName.f spec_l00In.f
  simp only [Option.bind_some]
  by_cases h0 : a < 0
  · have h1 : ¬ a ≥ 0 := by omega
    simp [h0, h1]
  · by_cases h8 : a ≤ 8
    · have h1 : a ≥ 0 := by omega
      have h2 : ¬ a ≥ 9 := by omega
      have h3 : a < 9 := by omega
      simp [h0, h1, h2, h3, h8]
    · have h1 : a ≥ 0 := by omega
      have h2 : a ≥ 9 := by omega
      simp [h0, h1, h2, h8]

end Go.Proofs.Ytnnllcdiacpkkaa.Pure
