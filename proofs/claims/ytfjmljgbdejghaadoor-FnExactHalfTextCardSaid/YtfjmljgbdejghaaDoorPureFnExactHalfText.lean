/- For all halves the program's HalfText returns what the reference's returns; no condition. -/
import Derived.Test.YtfjmljgbdejghaaDoorMHalfTextx0
import Derived.Test.YtfjmljgbdejghaaDoorMHalfTextx8
import Derived.Test.YtfjmljgbdejghaaDoorEv
import Derived.Test.YtfjmljgbdejghaaDoorPuGrainHalfText
import Derived.Test.YtfjmljgbdejghaaDoorPuNotchHalfText
import Derived.Test.YtfjmljgbdejghaaDoorPuHTextHalfText
namespace Go.Proofs.YtfjmljgbdejghaaDoor.Pure
open Go.RowKit Go.Proofs.YtfjmljgbdejghaaDoor.MHalfText Go.Proofs.YtfjmljgbdejghaaDoorW.PrintWords Go.Proofs.YtfjmljgbdejghaaDoorW.PrintLast Go.Proofs.YtfjmljgbdejghaaDoor.Evs Go.Proofs.YtfjmljgbdejghaaDoor.PuGrainHalfText Go.Proofs.YtfjmljgbdejghaaDoor.PuNotchHalfText Go.Proofs.YtfjmljgbdejghaaDoor.PuHTextHalfText
set_option linter.unusedVariables false
set_option linter.unusedSimpArgs false

theorem FnExactHalfText (s : Bool) (l : List TL) (g : Vector Int 16) (hl : l.length ≤ maxLen) (hz : ∀ z ∈ l, (Lit.int .i8 z.f0).wf = true ∧ (Lit.int .i16 z.f1).wf = true) (_ : Arr.ArrWf .i8 g) : ∃ k, laws_FnExactHalfText.f k s l g = some true := by
  refine Ev.rounds (r := true) ?_
  unfold laws_FnExactHalfText.f
  refine ev_bind0 (szH s l g 1048576 (by omega) (by omega) hl) ?_
  by_cases h1 : (1048576 : Int) - l.length < 0
  · rw [if_pos h1]; exact Ev.now _
  rw [if_neg h1]
  have t := toH_ev s l g (by omega)
  have hm : (l.map toT).length ≤ maxLen := by rw [List.length_map]; exact hl
  have hw := wf_map hz
  refine ev_neg h1 (Ev.bind t (Ev.bind (HTextS_ev s _ g hm hw) (Ev.bind t (Ev.bind (HTextI_ev s _ g hm hw) (ev_pos rfl ?_)))))
  exact Ev.bind t (Ev.bind (eqH_refl s _ g hm) (ev_pos rfl (Ev.now _)))
end Go.Proofs.YtfjmljgbdejghaaDoor.Pure
