/- What CutNotch comes to on both sides. -/
import Derived.Test.YtcblnnfodpglaaaMCutNotchx0
import Derived.Test.YtcblnnfodpglaaaMCutNotchx5
import Derived.Test.YtcblnnfodpglaaaMCutNotchx9
import Derived.Test.YtcblnnfodpglaaaVCutNotchEv
import Derived.Test.YtcblnnfodpglaaaPuGrainCutNotch
import Derived.Test.YtcblnnfodpglaaaPuNotchCutNotch
import Derived.Test.YtcblnnfodpglaaaPuCutNCutNotch
namespace Go.Proofs.Ytcblnnfodpglaaa.PuCutN2CutNotch
open Go.RowKit Go.Proofs.Ytcblnnfodpglaaa.MCutNotch Go.Proofs.YtcblnnfodpglaaaW.PrintWords Go.Proofs.YtcblnnfodpglaaaW.PrintLast Go.Proofs.Ytcblnnfodpglaaa.Evs Go.Proofs.Ytcblnnfodpglaaa.PuGrainCutNotch Go.Proofs.Ytcblnnfodpglaaa.PuNotchCutNotch Go.Proofs.Ytcblnnfodpglaaa.PuCutNCutNotch
set_option linter.unusedVariables false
set_option linter.unusedSimpArgs false
def cutH (s : Bool) (l : List T) (g : G) (a b : Int) : Bool × List T × G × Int :=
  if validH l g = true then
    if kd a = true ∧ 0 ≤ b ∧ b ≤ 200 then
      if validH (insT (mkN a b) l) g = true then (s, insT (mkN a b) l, g, 0) else (false, [], zeroG, 4)
    else (false, [], zeroG, 2)
  else (false, [], zeroG, 1)
theorem CutNotchS_ev (s : Bool) (l : List T) (g : G) (a b : Int) (hl : l.length ≤ maxLen) (hw : ∀ n ∈ l, wfT n) : Ev (fun k => spec_CutNotch.f k s l g a b) (cutH s l g a b) := by
  unfold spec_CutNotch.f
  refine Ev.bind (okS_ev s l g hl hw) ?_
  unfold cutH
  by_cases hv : validH l g = true
  · have hlen := valid_len (validH_N hv)
    refine ev_pos hv (ev_bind0 (kindS a) ?_)
    rw [if_pos hv]
    by_cases hk : kd a = true
    · refine ev_pos hk (ev_bind0 (l00In_f b 0 200) ?_)
      by_cases hb : 0 ≤ b ∧ b ≤ 200
      · rw [if_pos ⟨hk, hb⟩]
        refine Ev.step (fun k => by simp only [spec_CutNotch.j0]; rfl) (ev_neg (by simp [hb]) (Ev.bind (cutS_ev l a b (by omega)) ?_))
        have hwi : ∀ x ∈ insT (mkN a b) l, wfT x := fun x hx => by
          rcases insT_mem l hx with h | h
          · rw [h]; exact mkN_wf hk hb.1 hb.2
          · exact hw x h
        refine Ev.bind (okS_ev s _ g (by rw [insT_length]; unfold maxLen; omega) hwi) ?_
        by_cases h2 : validH (insT (mkN a b) l) g = true
        · exact ev_pos h2 (ev_eq (Ev.now _) (if_pos h2).symm)
        · exact ev_neg h2 (ev_eq (Ev.now _) (if_neg h2).symm)
      · rw [if_neg (fun h => hb h.2)]
        exact Ev.step (fun k => by simp only [spec_CutNotch.j0]; rfl) (ev_pos (by simp only [Bool.not_eq_true', decide_eq_false_iff_not]; exact hb) (Ev.now _))
    · rw [if_neg (fun h => hk h.1)]
      refine ev_neg hk (Ev.step (fun k => by simp only [spec_CutNotch.j0]; rfl) ?_)
      exact ev_pos trivial (Ev.now _)
  · rw [if_neg hv]; exact ev_neg hv (Ev.now _)
theorem CutNotchI_ev (s : Bool) (l : List T) (g : G) (a b : Int) (hl : l.length ≤ maxLen) (hw : ∀ n ∈ l, wfT n) : Ev (fun k => impl_CutNotch.f k s l g a b) (cutH s l g a b) := by
  unfold impl_CutNotch.f
  refine Ev.bind (ValidHalfI_ev s l g hl hw) ?_
  unfold cutH
  by_cases hv : validH l g = true
  · have hlen := valid_len (validH_N hv)
    refine ev_pos hv (ev_bind0 (kindI a) ?_)
    rw [if_pos hv]
    by_cases hk : kd a = true
    · refine ev_pos hk ?_
      by_cases h0 : b < 0
      · rw [if_neg (fun h => by omega)]
        refine ev_pos h0 (Ev.step (fun k => by simp only [impl_CutNotch.j0]; rfl) ?_)
        exact ev_pos trivial (Ev.now _)
      · refine ev_neg h0 ?_
        by_cases h1 : b > 200
        · rw [if_neg (fun h => by omega)]
          exact Ev.step (fun k => by simp only [impl_CutNotch.j0]; rfl) (ev_pos (by simpa using h1) (Ev.now _))
        · rw [if_pos ⟨hk, by omega, by omega⟩]
          refine Ev.step (fun k => by simp only [impl_CutNotch.j0]; rfl) (ev_neg (by simpa using h1) (Ev.bind (cutI_ev s l g a b (by omega) hw hk (by omega) (by omega)) ?_))
          by_cases h2 : validH (insT (mkN a b) l) g = true
          · exact ev_pos h2 (ev_eq (Ev.now _) (if_pos h2).symm)
          · exact ev_neg h2 (ev_eq (Ev.now _) (if_neg h2).symm)
    · rw [if_neg (fun h => hk h.1)]
      refine ev_neg hk (Ev.step (fun k => by simp only [impl_CutNotch.j0]; rfl) ?_)
      exact ev_pos trivial (Ev.now _)
  · rw [if_neg hv]; exact ev_neg hv (Ev.now _)
theorem cutH_len (s : Bool) (l : List T) (g : G) (a b : Int) : (cutH s l g a b).2.1.length ≤ 1000 := by
  unfold cutH
  split
  · rename_i hv
    have hlen := valid_len (validH_N hv)
    split
    · split
      · rename_i h2
        have := valid_len (validH_N h2)
        show (insT (mkN a b) l).length ≤ 1000
        omega
      · simp
    · simp
  · simp
end Go.Proofs.Ytcblnnfodpglaaa.PuCutN2CutNotch
