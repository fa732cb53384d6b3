/- For all rates the program's ValidRate returns what the reference's returns; no condition. -/
import Derived.Test.YtnnllcdiacpkkaaMSx0
import Derived.Test.YtnnllcdiacpkkaaMSx2
import Derived.Test.YtnnllcdiacpkkaaEv
namespace Go.Proofs.Ytnnllcdiacpkkaa.Pure
open Go.RowKit Go.Proofs.Ytnnllcdiacpkkaa.MS Go.Proofs.YtnnllcdiacpkkaaW.PrintWords Go.Proofs.YtnnllcdiacpkkaaW.PrintLast Go.Proofs.Ytnnllcdiacpkkaa.Evs
set_option linter.unusedVariables false
set_option linter.unusedSimpArgs false

theorem FnExactValidRate (a b : Int) (_ : (Lit.int .i64 a).wf = true) (_ : (Lit.int .i64 b).wf = true) : laws_FnExactValidRate.f a b = some true := by
  unfold laws_FnExactValidRate.f spec_ValidRate.f spec_l03Rate.f spec_l00In.f impl_ValidRate.f laws_toRate.f
  simp only [Option.bind_some]
  by_cases h1 : b ≥ 1
  · by_cases h2 : b ≤ 10000
    · by_cases h3 : a ≥ 0 <;> simp [h1, h2, h3]
    · simp [h1, h2]
  · simp [h1]
end Go.Proofs.Ytnnllcdiacpkkaa.Pure
