/- For all texts that the law's bound lets in, the program's ReadAmount returns what the reference's returns; no condition. -/
import Derived.Test.YtfjmljgbdejghaaDoorMReadAmountx0
import Derived.Test.YtfjmljgbdejghaaDoorMReadAmountx4
import Derived.Test.YtfjmljgbdejghaaDoorEv
import Derived.Test.YtfjmljgbdejghaaDoorPuReadReadAmount
namespace Go.Proofs.YtfjmljgbdejghaaDoor.Pure
open Go.RowKit Go.Proofs.YtfjmljgbdejghaaDoor.MReadAmount Go.Proofs.YtfjmljgbdejghaaDoorW.PrintWords Go.Proofs.YtfjmljgbdejghaaDoorW.PrintLast Go.Proofs.YtfjmljgbdejghaaDoor.Evs Go.Proofs.YtfjmljgbdejghaaDoor.PuBytReadAmount Go.Proofs.YtfjmljgbdejghaaDoor.PuReadReadAmount
set_option linter.unusedVariables false
set_option linter.unusedSimpArgs false

theorem FnExactReadAmount (a : ByteArray) (_ : a.size ≤ 140737488351232) : ∃ k, laws_FnExactReadAmount.f k a = some true := by
  refine Ev.rounds (r := true) ?_
  unfold laws_FnExactReadAmount.f
  refine ev_if (fun h => Ev.now _) (fun h => ?_)
  obtain ⟨l, rfl⟩ : ∃ l, a = mkB l := ⟨_, (mkB_of a).symm⟩
  rw [mkB_size] at h
  exact Ev.bind (specReadA_ev l (by omega)) (Ev.bind (implRead_ev l (by omega)) (ev_pos rfl (ev_pos rfl (Ev.now _))))
end Go.Proofs.YtfjmljgbdejghaaDoor.Pure
