/- A stock and a foil: whether they belong together. -/
import Derived.Test.YtcblnnfodpglaaaMSticksx0
import Derived.Test.YtcblnnfodpglaaaMSticksx10
import Derived.Test.YtcblnnfodpglaaaVSticksEv
import Derived.Test.YtcblnnfodpglaaaPuGrainSticks
import Derived.Test.YtcblnnfodpglaaaPuFitSticks
import Derived.Test.YtcblnnfodpglaaaPuNotchSticks
import Derived.Test.YtcblnnfodpglaaaPuNotchSSticks
namespace Go.Proofs.Ytcblnnfodpglaaa.PuPairSticks
open Go.RowKit Go.Proofs.Ytcblnnfodpglaaa.MSticks Go.Proofs.YtcblnnfodpglaaaW.PrintWords Go.Proofs.YtcblnnfodpglaaaW.PrintLast Go.Proofs.Ytcblnnfodpglaaa.Evs Go.Proofs.Ytcblnnfodpglaaa.PuGrainSticks Go.Proofs.Ytcblnnfodpglaaa.PuFitSticks Go.Proofs.Ytcblnnfodpglaaa.PuNotchSticks Go.Proofs.Ytcblnnfodpglaaa.PuNotchSSticks
set_option linter.unusedVariables false
set_option linter.unusedSimpArgs false
/-- the code of a stock and a foil, with wear -/
def pairC (s : Bool) (l : List T) (g : G) (s2 : Bool) (l2 : List T) (g2 : G) (w : Int) : Int :=
  if validH l g = true ∧ validH l2 g2 = true then (if 0 ≤ w ∧ w ≤ 16 then (if s = true ∧ s2 = false then 0 else 4) else 2) else 1
noncomputable def fitsR (s : Bool) (l : List T) (g : G) (s2 : Bool) (l2 : List T) (g2 : G) (w : Int) : Bool × Int :=
  if pairC s l g s2 l2 g2 w = 0 then (dec (l = l2) && fitG g g2 w, 0) else (false, pairC s l g s2 l2 g2 w)
theorem FitsI_ev (s : Bool) (l : List T) (g : G) (s2 : Bool) (l2 : List T) (g2 : G) (w : Int) (hl : l.length ≤ maxLen) (hl2 : l2.length ≤ maxLen) (hw : ∀ n ∈ l, wfT n) (hw2 : ∀ n ∈ l2, wfT n) :
    Ev (fun k => impl_Fits.f k s l g s2 l2 g2 w) (fitsR s l g s2 l2 g2 w) := by
  unfold impl_Fits.f
  have bad : ¬ (validH l g = true ∧ validH l2 g2 = true) → Ev (fun k => impl_Fits.j0 k w true s l g s2 l2 g2) (fitsR s l g s2 l2 g2 w) := by
    intro h
    have e : pairC s l g s2 l2 g2 w = 1 := if_neg h
    unfold fitsR
    rw [e]
    exact ev_ifn (by decide) (Ev.step (f := fun _ => some (false, 1)) (fun k => by simp only [impl_Fits.j0]; rfl) (Ev.now _))
  refine Ev.bind (ValidHalfI_ev s l g hl hw) ?_
  by_cases h : validH l g = true
  · refine ev_pos h (Ev.bind (ValidHalfI_ev s2 l2 g2 hl2 hw2) ?_)
    by_cases h2 : validH l2 g2 = true
    · have e : pairC s l g s2 l2 g2 w = if 0 ≤ w ∧ w ≤ 16 then (if s = true ∧ s2 = false then 0 else 4) else 2 := if_pos ⟨h, h2⟩
      unfold fitsR
      rw [e, h2]
      refine Ev.step (fun k => by simp only [impl_Fits.j0]; rfl) (ev_neg (by simp) (ev_bind0 (isWear_eq w) ?_))
      by_cases h3 : 0 ≤ w ∧ w ≤ 16
      · rw [if_pos h3]
        refine ev_pos (by simpa using h3) ?_
        cases s with
        | false => exact ev_neg (by simp) (Ev.now _)
        | true =>
          cases s2 with
          | true => exact ev_pos rfl (ev_pos rfl (Ev.now _))
          | false =>
            refine ev_pos rfl (ev_neg (by simp) ?_)
            rw [if_pos (show true = true ∧ false = false from ⟨rfl, rfl⟩)]
            refine ev_ifp rfl ?_
            refine Ev.bind (a := dec (l = l2) && fitG g g2 w) ?_ (Ev.now _)
            unfold impl_fits.f
            refine Ev.bind (sameI_ev l l2 hl) ?_
            by_cases h4 : l = l2
            · rw [dec_true h4]
              exact ev_pos rfl (Ev.bind (fitI_ev g g2 w) (Ev.now _))
            · rw [dec_false h4]
              exact ev_neg (by simp) (Ev.now _)
      · rw [if_neg h3]
        exact ev_neg (by simpa using h3) (Ev.now _)
    · rw [Bool.eq_false_iff.mpr h2]
      exact bad (fun z => h2 z.2)
  · exact ev_neg h (bad (fun z => h z.1))
end Go.Proofs.Ytcblnnfodpglaaa.PuPairSticks
