/- For all pairs of halves the program's SameHalf returns what the reference's returns; no condition. -/
import Derived.Test.YtgkohbjphajgoaaMSameHalfx0
import Derived.Test.YtgkohbjphajgoaaMSameHalfx6
import Derived.Test.YtgkohbjphajgoaaEv
import Derived.Test.YtgkohbjphajgoaaPuGrainSameHalf
import Derived.Test.YtgkohbjphajgoaaPuNotchSameHalf
import Derived.Test.YtgkohbjphajgoaaPuNotchSSameHalf
namespace Go.Proofs.Ytgkohbjphajgoaa.Pure
open Go.RowKit Go.Proofs.Ytgkohbjphajgoaa.MSameHalf Go.Proofs.YtgkohbjphajgoaaW.PrintWords Go.Proofs.YtgkohbjphajgoaaW.PrintLast Go.Proofs.Ytgkohbjphajgoaa.Evs Go.Proofs.Ytgkohbjphajgoaa.PuGrainSameHalf Go.Proofs.Ytgkohbjphajgoaa.PuNotchSameHalf Go.Proofs.Ytgkohbjphajgoaa.PuNotchSSameHalf
set_option linter.unusedVariables false
set_option linter.unusedSimpArgs false

theorem FnExactSameHalf (s : Bool) (l : List TL) (g : Vector Int 16) (s2 : Bool) (l2 : List TL) (g2 : Vector Int 16) (hl : l.length ≤ maxLen) (hz : ∀ z ∈ l, (Lit.int .i8 z.f0).wf = true ∧ (Lit.int .i16 z.f1).wf = true) (_ : Arr.ArrWf .i8 g)
    (hl2 : l2.length ≤ maxLen) (hz2 : ∀ z ∈ l2, (Lit.int .i8 z.f0).wf = true ∧ (Lit.int .i16 z.f1).wf = true) (_ : Arr.ArrWf .i8 g2) : ∃ k, laws_FnExactSameHalf.f k s l g s2 l2 g2 = some true := by
  refine Ev.rounds (r := true) ?_
  unfold laws_FnExactSameHalf.f
  refine ev_bind0 (szH s l g 1048576 (by omega) (by omega) hl) ?_
  by_cases h1 : (1048576 : Int) - l.length < 0
  · rw [if_pos h1]; exact Ev.now _
  rw [if_neg h1]
  refine ev_neg h1 (ev_bind0 (szH s2 l2 g2 _ (by omega) (by omega) hl2) ?_)
  by_cases h2 : (1048576 : Int) - l.length - l2.length < 0
  · rw [if_pos h2]; exact Ev.now _
  rw [if_neg h2]
  have t := toH_ev s l g (by omega)
  have t2 := toH_ev s2 l2 g2 (by omega)
  have hm : (l.map toT).length ≤ maxLen := by rw [List.length_map]; exact hl
  have hm2 : (l2.map toT).length ≤ maxLen := by rw [List.length_map]; exact hl2
  have hw := wf_map hz
  have hw2 := wf_map hz2
  refine ev_neg h2 (Ev.bind t (Ev.bind t2 (Ev.bind (SameHalfS_ev s _ g s2 _ g2 hm) (Ev.bind t (Ev.bind t2 (Ev.bind (SameHalfI_ev s _ g s2 _ g2 hm) ?_))))))
  refine ev_neg (by simp) (Ev.bind t (Ev.bind (eqH_refl s _ g hm) (ev_pos rfl (Ev.bind t2 (Ev.bind (eqH_refl s2 _ g2 hm2) (ev_pos rfl (Ev.now _)))))))
end Go.Proofs.Ytgkohbjphajgoaa.Pure
