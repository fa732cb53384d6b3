/- For all halves and kinds the program's CountKind returns what the reference's returns; no condition. -/
import Derived.Test.YtgkohbjphajgoaaMCountKindx0
import Derived.Test.YtgkohbjphajgoaaMCountKindx6
import Derived.Test.YtgkohbjphajgoaaEv
import Derived.Test.YtgkohbjphajgoaaPuGrainCountKind
import Derived.Test.YtgkohbjphajgoaaPuNotchCountKind
import Derived.Test.YtgkohbjphajgoaaPuHalf1CountKind
namespace Go.Proofs.Ytgkohbjphajgoaa.Pure
open Go.RowKit Go.Proofs.Ytgkohbjphajgoaa.MCountKind Go.Proofs.YtgkohbjphajgoaaW.PrintWords Go.Proofs.YtgkohbjphajgoaaW.PrintLast Go.Proofs.Ytgkohbjphajgoaa.Evs Go.Proofs.Ytgkohbjphajgoaa.PuGrainCountKind Go.Proofs.Ytgkohbjphajgoaa.PuNotchCountKind Go.Proofs.Ytgkohbjphajgoaa.PuHalf1CountKind
set_option linter.unusedVariables false
set_option linter.unusedSimpArgs false

theorem FnExactCountKind (s : Bool) (l : List TL) (g : Vector Int 16) (q : Int) (hl : l.length ≤ maxLen) (hz : ∀ z ∈ l, (Lit.int .i8 z.f0).wf = true ∧ (Lit.int .i16 z.f1).wf = true) (_ : Arr.ArrWf .i8 g) (_ : (Lit.int .i64 q).wf = true) : ∃ k, laws_FnExactCountKind.f k s l g q = some true := by
  refine Ev.rounds (r := true) ?_
  unfold laws_FnExactCountKind.f
  refine ev_bind0 (szH s l g 1048576 (by omega) (by omega) hl) ?_
  by_cases h1 : (1048576 : Int) - l.length < 0
  · rw [if_pos h1]; exact Ev.now _
  rw [if_neg h1]
  have t := toH_ev s l g (by omega)
  have hm : (l.map toT).length ≤ maxLen := by rw [List.length_map]; exact hl
  have hw := wf_map hz
  refine ev_neg h1 (Ev.bind t (Ev.bind (CountS_ev s _ g q hm hw) (Ev.bind t (Ev.bind (CountI_ev s _ g q hm hw) ?_))))
  refine ev_pos rfl (Ev.step (fun k => by simp only [laws_FnExactCountKind.j0]; rfl) (ev_neg (by simp) (Ev.bind t (Ev.bind (eqH_refl s _ g hm) (ev_pos rfl (Ev.now _))))))
end Go.Proofs.Ytgkohbjphajgoaa.Pure
