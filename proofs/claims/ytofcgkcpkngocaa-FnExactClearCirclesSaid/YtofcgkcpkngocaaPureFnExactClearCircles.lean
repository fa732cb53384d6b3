/- For all numbers of people and lists of debts the program's ClearCircles returns what the reference's returns; no condition. -/
import Derived.Test.YtofcgkcpkngocaaMClearCirclesx0
import Derived.Test.YtofcgkcpkngocaaMClearCirclesx11
import Derived.Test.YtofcgkcpkngocaaVClearCirclesEv
import Derived.Test.YtofcgkcpkngocaaPuDebtClearCircles
import Derived.Test.YtofcgkcpkngocaaPuDebtMClearCircles
import Derived.Test.YtofcgkcpkngocaaPuDebtHClearCircles
import Derived.Test.YtofcgkcpkngocaaPuClearClearCircles
namespace Go.Proofs.Ytofcgkcpkngocaa.Pure
open Go.RowKit Go.Proofs.Ytofcgkcpkngocaa.MClearCircles Go.Proofs.YtofcgkcpkngocaaW.PrintWords Go.Proofs.YtofcgkcpkngocaaW.PrintLast Go.Proofs.Ytofcgkcpkngocaa.Evs Go.Proofs.Ytofcgkcpkngocaa.PuDebtClearCircles Go.Proofs.Ytofcgkcpkngocaa.PuDebtMClearCircles Go.Proofs.Ytofcgkcpkngocaa.PuDebtHClearCircles Go.Proofs.Ytofcgkcpkngocaa.PuClearClearCircles
set_option linter.unusedVariables false
set_option linter.unusedSimpArgs false

theorem FnExactClearCircles (p : Int) (l : List DL) (_ : (Lit.int .i64 p).wf = true) (hl : l.length ≤ maxLen) (_ : ∀ z ∈ l, (Lit.int .i64 z.f0).wf = true ∧ (Lit.int .i64 z.f1).wf = true ∧ (Lit.int .i64 z.f2).wf = true) : ∃ k, laws_FnExactClearCircles.f k p l = some true := by
  refine Ev.rounds (r := true) ?_
  unfold laws_FnExactClearCircles.f
  refine ev_bind0 (sz l 1048576 (by omega) (by omega) hl) ?_
  by_cases h1 : (1048576 : Int) - l.length < 0
  · rw [if_pos h1]; exact Ev.now _
  rw [if_neg h1]
  have t := toS_ev l (by omega)
  have hm : (l.map toD).length ≤ maxLen := by rw [List.length_map]; exact hl
  have hml : (l.map toD).length ≤ 1048576 := by rw [List.length_map]; omega
  obtain ⟨r, hr, S, I⟩ := clear_both p (l.map toD) hm
  have er := eqS_refl r.1 (by unfold maxLen; omega)
  have hh := heldD_ev r.1.length 1 (by omega) (by omega) (by omega)
  refine ev_neg h1 (Ev.bind t (Ev.bind S (Ev.bind t (Ev.bind I (Ev.bind er (ev_pos rfl (ev_pos rfl ?_)))))))
  refine Ev.step (fun k => by simp only [laws_FnExactClearCircles.j0]; rfl) (ev_neg (by simp) ?_)
  refine Ev.bind t (Ev.bind (eqS_refl _ hm) (ev_pos rfl (Ev.bind (markD_at (l.map toD) 1 (by omega) (by omega) (by omega)) (ev_neg (by simp only; omega) (Ev.bind er (ev_pos rfl (ev_pos trivial ?_)))))))
  refine Ev.step (fun k => by simp only [laws_FnExactClearCircles.j1]; rfl) (ev_neg (by simp) ?_)
  refine Ev.bind (markD_at r.1 1 (by omega) (by omega) (by omega)) (Ev.bind hh (ev_neg (by omega) (ev_pos rfl ?_)))
  refine Ev.bind t (Ev.bind I (Ev.bind er (ev_pos rfl (ev_pos rfl ?_))))
  refine Ev.step (fun k => by simp only [laws_FnExactClearCircles.j2]; rfl) (ev_neg (by simp) ?_)
  exact Ev.bind hh (ev_neg (by omega) (ev_pos rfl (Ev.now _)))
end Go.Proofs.Ytofcgkcpkngocaa.Pure
