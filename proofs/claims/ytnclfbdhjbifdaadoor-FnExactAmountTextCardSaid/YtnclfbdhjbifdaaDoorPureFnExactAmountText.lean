/- For all amounts the program's AmountText returns what the reference's returns; no condition. -/
import Derived.Test.YtnclfbdhjbifdaaDoorMAmountTextx0
import Derived.Test.YtnclfbdhjbifdaaDoorMAmountTextx2
import Derived.Test.YtnclfbdhjbifdaaDoorEv
import Derived.Test.YtnclfbdhjbifdaaDoorPuAmtAmountText
namespace Go.Proofs.YtnclfbdhjbifdaaDoor.Pure
open Go.RowKit Go.Proofs.YtnclfbdhjbifdaaDoor.MAmountText Go.Proofs.YtnclfbdhjbifdaaDoorW.PrintWords Go.Proofs.YtnclfbdhjbifdaaDoorW.PrintLast Go.Proofs.YtnclfbdhjbifdaaDoor.Evs Go.Proofs.YtnclfbdhjbifdaaDoor.PuBytAmountText Go.Proofs.YtnclfbdhjbifdaaDoor.PuAmtAmountText
set_option linter.unusedVariables false
set_option linter.unusedSimpArgs false

theorem FnExactAmountText (a : Int) (_ : (Lit.int .i64 a).wf = true) : ∃ k, laws_FnExactAmountText.f k a = some true := by
  refine Ev.rounds (r := true) ?_
  unfold laws_FnExactAmountText.f
  exact Ev.bind (specText_ev a) (Ev.bind (implText_ev a) (ev_pos rfl (Ev.now _)))
end Go.Proofs.YtnclfbdhjbifdaaDoor.Pure
