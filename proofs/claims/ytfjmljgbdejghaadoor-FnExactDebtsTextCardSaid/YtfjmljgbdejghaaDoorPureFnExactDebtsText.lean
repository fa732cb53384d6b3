/- For all lists of debts the program's DebtsText returns what the reference's returns; no condition. -/
import Derived.Test.YtfjmljgbdejghaaDoorMDebtsTextx0
import Derived.Test.YtfjmljgbdejghaaDoorMDebtsTextx7
import Derived.Test.YtfjmljgbdejghaaDoorEv
import Derived.Test.YtfjmljgbdejghaaDoorPuDTextDebtsText
namespace Go.Proofs.YtfjmljgbdejghaaDoor.Pure
open Go.RowKit Go.Proofs.YtfjmljgbdejghaaDoor.MDebtsText Go.Proofs.YtfjmljgbdejghaaDoorW.PrintWords Go.Proofs.YtfjmljgbdejghaaDoorW.PrintLast Go.Proofs.YtfjmljgbdejghaaDoor.Evs Go.Proofs.YtfjmljgbdejghaaDoor.PuDebtDebtsText Go.Proofs.YtfjmljgbdejghaaDoor.PuBytDebtsText Go.Proofs.YtfjmljgbdejghaaDoor.PuDTextDebtsText
set_option linter.unusedVariables false
set_option linter.unusedSimpArgs false

theorem FnExactDebtsText (a : List DL) (ha : a.length ≤ maxLen) (_ : ∀ z ∈ a, (Lit.int .i64 z.f0).wf = true ∧ (Lit.int .i64 z.f1).wf = true ∧ (Lit.int .i64 z.f2).wf = true) : ∃ k, laws_FnExactDebtsText.f k a = some true := by
  refine Ev.rounds (r := true) ?_
  unfold laws_FnExactDebtsText.f
  refine ev_bind0 (sz a 1048576 (by omega) (by omega) ha) ?_
  by_cases h1 : (1048576 : Int) - a.length < 0
  · rw [if_pos h1]; exact Ev.now _
  rw [if_neg h1]
  refine ev_neg h1 ?_
  have ta := toS_ev a (by omega)
  have la : (a.map toD).length ≤ maxLen := by rw [List.length_map]; exact ha
  refine Ev.bind ta (Ev.bind (DTextS_ev _ la) (Ev.bind ta (Ev.bind (DTextI_ev _ la) (ev_pos rfl ?_))))
  refine Ev.bind ta (Ev.bind (eqS_refl _ la) ?_)
  exact ev_pos rfl (Ev.now _)
end Go.Proofs.YtfjmljgbdejghaaDoor.Pure
