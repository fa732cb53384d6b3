/- A stock and a foil: whether they belong together. -/
import Derived.Test.YtgkohbjphajgoaaMMisfitsOfx0
import Derived.Test.YtgkohbjphajgoaaMMisfitsOfx5
import Derived.Test.YtgkohbjphajgoaaVMisfitsOfEv
import Derived.Test.YtgkohbjphajgoaaPuGrainMisfitsOf
import Derived.Test.YtgkohbjphajgoaaPuFitMisfitsOf
import Derived.Test.YtgkohbjphajgoaaPuNotchMisfitsOf
import Derived.Test.YtgkohbjphajgoaaPuNotchSMisfitsOf
namespace Go.Proofs.Ytgkohbjphajgoaa.PuPairMisfitsOf
open Go.RowKit Go.Proofs.Ytgkohbjphajgoaa.MMisfitsOf Go.Proofs.YtgkohbjphajgoaaW.PrintWords Go.Proofs.YtgkohbjphajgoaaW.PrintLast Go.Proofs.Ytgkohbjphajgoaa.Evs Go.Proofs.Ytgkohbjphajgoaa.PuGrainMisfitsOf Go.Proofs.Ytgkohbjphajgoaa.PuFitMisfitsOf Go.Proofs.Ytgkohbjphajgoaa.PuNotchMisfitsOf Go.Proofs.Ytgkohbjphajgoaa.PuNotchSMisfitsOf
set_option linter.unusedVariables false
set_option linter.unusedSimpArgs false
/-- the code of a stock and a foil, with wear -/
def pairC (s : Bool) (l : List T) (g : G) (s2 : Bool) (l2 : List T) (g2 : G) (w : Int) : Int :=
  if validH l g = true ∧ validH l2 g2 = true then (if 0 ≤ w ∧ w ≤ 16 then (if s = true ∧ s2 = false then 0 else 4) else 2) else 1
theorem pairS_ev (s : Bool) (l : List T) (g : G) (s2 : Bool) (l2 : List T) (g2 : G) (w : Int) (hl : l.length ≤ maxLen) (hl2 : l2.length ≤ maxLen) (hw : ∀ n ∈ l, wfT n) (hw2 : ∀ n ∈ l2, wfT n) :
    Ev (fun k => spec_l01Pair.f k s l g s2 l2 g2 w) (pairC s l g s2 l2 g2 w) := by
  unfold spec_l01Pair.f pairC
  have bad : ¬ (validH l g = true ∧ validH l2 g2 = true) → Ev (fun k => spec_l01Pair.j0 k w true s l g s2 l2 g2) (if validH l g = true ∧ validH l2 g2 = true then (if 0 ≤ w ∧ w ≤ 16 then (if s = true ∧ s2 = false then 0 else 4) else 2) else 1) := by
    intro h
    exact ev_ifn h (Ev.step (f := fun _ => some 1) (fun k => by simp only [spec_l01Pair.j0]; rfl) (Ev.now _))
  refine Ev.bind (okS_ev s l g hl hw) ?_
  by_cases h : validH l g = true
  · refine ev_pos h (Ev.bind (okS_ev s2 l2 g2 hl2 hw2) ?_)
    by_cases h2 : validH l2 g2 = true
    · refine ev_ifp ⟨h, h2⟩ ?_
      rw [h2]
      refine Ev.step (fun k => by simp only [spec_l01Pair.j0]; rfl) (ev_neg (by simp) (ev_bind0 (in16 w) ?_))
      by_cases h3 : 0 ≤ w ∧ w ≤ 16
      · refine ev_ifp h3 (ev_pos (by simpa using h3) ?_)
        cases s with
        | false => exact ev_ifn (by simp) (ev_neg (by simp) (Ev.now _))
        | true =>
          cases s2 with
          | false => exact ev_ifp (by simp) (ev_pos rfl (ev_neg (by simp) (Ev.now _)))
          | true => exact ev_ifn (by simp) (ev_pos rfl (ev_pos rfl (Ev.now _)))
      · exact ev_ifn h3 (ev_neg (by simpa using h3) (Ev.now _))
    · rw [Bool.eq_false_iff.mpr h2] at bad ⊢
      exact bad (by simp)
  · exact ev_neg h (bad (fun z => h z.1))
noncomputable def fitsR (s : Bool) (l : List T) (g : G) (s2 : Bool) (l2 : List T) (g2 : G) (w : Int) : Bool × Int :=
  if pairC s l g s2 l2 g2 w = 0 then (dec (l = l2) && fitG g g2 w, 0) else (false, pairC s l g s2 l2 g2 w)

end Go.Proofs.Ytgkohbjphajgoaa.PuPairMisfitsOf
