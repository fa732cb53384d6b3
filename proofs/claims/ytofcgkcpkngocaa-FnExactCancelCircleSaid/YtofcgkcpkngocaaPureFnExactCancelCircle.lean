/- For all numbers of people, lists of debts and circles the program's CancelCircle returns what the reference's returns; no condition. -/
import Derived.Test.YtofcgkcpkngocaaMCancelCirclex0
import Derived.Test.YtofcgkcpkngocaaMCancelCirclex11
import Derived.Test.YtofcgkcpkngocaaMCancelCirclex2
import Derived.Test.YtofcgkcpkngocaaVCancelCircleEv
import Derived.Test.YtofcgkcpkngocaaPuDebtCancelCircle
import Derived.Test.YtofcgkcpkngocaaPuDebtMCancelCircle
import Derived.Test.YtofcgkcpkngocaaPuDebtHCancelCircle
import Derived.Test.YtofcgkcpkngocaaPuToICancelCircle
import Derived.Test.YtofcgkcpkngocaaPuIntsCancelCircle
import Derived.Test.YtofcgkcpkngocaaPuCancelCancelCircle
namespace Go.Proofs.Ytofcgkcpkngocaa.Pure
open Go.RowKit Go.Proofs.Ytofcgkcpkngocaa.MCancelCircle Go.Proofs.YtofcgkcpkngocaaW.PrintWords Go.Proofs.YtofcgkcpkngocaaW.PrintLast Go.Proofs.Ytofcgkcpkngocaa.Evs Go.Proofs.Ytofcgkcpkngocaa.PuDebtCancelCircle Go.Proofs.Ytofcgkcpkngocaa.PuDebtMCancelCircle Go.Proofs.Ytofcgkcpkngocaa.PuDebtHCancelCircle Go.Proofs.Ytofcgkcpkngocaa.PuToICancelCircle Go.Proofs.Ytofcgkcpkngocaa.PuIntsCancelCircle Go.Proofs.Ytofcgkcpkngocaa.PuCancelCancelCircle
set_option linter.unusedVariables false
set_option linter.unusedSimpArgs false

theorem FnExactCancelCircle (p : Int) (l : List DL) (c : List Int) (_ : (Lit.int .i64 p).wf = true) (hl : l.length ≤ maxLen) (_ : ∀ z ∈ l, (Lit.int .i64 z.f0).wf = true ∧ (Lit.int .i64 z.f1).wf = true ∧ (Lit.int .i64 z.f2).wf = true) (hc : c.length ≤ maxLen) (_ : ∀ z ∈ c, (Lit.int .i64 z).wf = true) : ∃ k, laws_FnExactCancelCircle.f k p l c = some true := by
  refine Ev.rounds (r := true) ?_
  unfold laws_FnExactCancelCircle.f
  by_cases h0 : (c.length : Int) > 1048576
  · exact ev_pos h0 (Ev.now _)
  refine ev_neg h0 (ev_bind0 (sz l 1048576 (by omega) (by omega) hl) ?_)
  by_cases h1 : (1048576 : Int) - l.length < 0
  · rw [if_pos h1]; exact Ev.now _
  rw [if_neg h1]
  have t := toS_ev l (by omega)
  have tx := toI_ev c (by omega)
  have hm : (l.map toD).length ≤ maxLen := by rw [List.length_map]; exact hl
  have hml : (l.map toD).length ≤ 1048576 := by rw [List.length_map]; omega
  have S := CancelS_ev p (l.map toD) c hm hc
  have I := CancelI_ev p (l.map toD) c hm hc
  have hr := cancelR_len p (l.map toD) c
  obtain ⟨r, e⟩ : ∃ r, cancelR p (l.map toD) c = r := ⟨_, rfl⟩
  rw [e] at S I hr
  have er := eqS_refl r.1 (by unfold maxLen; omega)
  have hh := heldD_ev r.1.length 1 (by omega) (by omega) (by omega)
  have hI : Ev (fun k => laws_eqInt64S.f k c c) true := eqI_any c hc
  have mI := fun (m : Int) (h2 : 0 ≤ m) (h3 : m ≤ 1000000000) => markI_any c m h2 h3 (by omega)
  refine ev_neg h1 (Ev.bind t (Ev.bind tx (Ev.bind S (Ev.bind t (Ev.bind tx (Ev.bind I (Ev.bind er (ev_pos rfl (ev_pos rfl ?_)))))))))
  refine Ev.step (fun k => by simp only [laws_FnExactCancelCircle.j0]; rfl) (ev_neg (by simp) ?_)
  refine Ev.bind t (Ev.bind (eqS_refl _ hm) (ev_pos rfl (Ev.bind tx (Ev.bind hI (ev_pos rfl (Ev.bind (markD_at (l.map toD) 1 (by omega) (by omega) (by omega)) (Ev.bind (mI _ (by simp only; omega) (by simp only; omega)) (ev_neg (by simp only; omega) (Ev.bind er (ev_pos rfl (ev_pos trivial ?_)))))))))))
  refine Ev.step (fun k => by simp only [laws_FnExactCancelCircle.j1]; rfl) (ev_neg (by simp) ?_)
  refine Ev.bind (markD_at r.1 1 (by omega) (by omega) (by omega)) (Ev.bind hh (ev_neg (by omega) (ev_pos rfl ?_)))
  refine Ev.bind t (Ev.bind tx (Ev.bind I (Ev.bind er (ev_pos rfl (ev_pos rfl ?_)))))
  refine Ev.step (fun k => by simp only [laws_FnExactCancelCircle.j2]; rfl) (ev_neg (by simp) ?_)
  exact Ev.bind hh (ev_neg (by omega) (ev_pos rfl (Ev.now _)))
end Go.Proofs.Ytofcgkcpkngocaa.Pure
