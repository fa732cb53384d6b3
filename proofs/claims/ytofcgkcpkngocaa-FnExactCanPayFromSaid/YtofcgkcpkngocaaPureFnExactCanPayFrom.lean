/- For all numbers of people, lists of debts and lists of cash the program's CanPayFrom returns what the reference's returns; no condition. -/
import Derived.Test.YtofcgkcpkngocaaMCanPayFromx0
import Derived.Test.YtofcgkcpkngocaaMCanPayFromx2
import Derived.Test.YtofcgkcpkngocaaMCanPayFromx9
import Derived.Test.YtofcgkcpkngocaaVCanPayFromEv
import Derived.Test.YtofcgkcpkngocaaPuDebtCanPayFrom
import Derived.Test.YtofcgkcpkngocaaPuDebtMCanPayFrom
import Derived.Test.YtofcgkcpkngocaaPuToICanPayFrom
import Derived.Test.YtofcgkcpkngocaaPuIntsCanPayFrom
import Derived.Test.YtofcgkcpkngocaaPuCanCanPayFrom
namespace Go.Proofs.Ytofcgkcpkngocaa.Pure
open Go.RowKit Go.Proofs.Ytofcgkcpkngocaa.MCanPayFrom Go.Proofs.YtofcgkcpkngocaaW.PrintWords Go.Proofs.YtofcgkcpkngocaaW.PrintLast Go.Proofs.Ytofcgkcpkngocaa.Evs Go.Proofs.Ytofcgkcpkngocaa.PuDebtCanPayFrom Go.Proofs.Ytofcgkcpkngocaa.PuDebtMCanPayFrom Go.Proofs.Ytofcgkcpkngocaa.PuToICanPayFrom Go.Proofs.Ytofcgkcpkngocaa.PuIntsCanPayFrom Go.Proofs.Ytofcgkcpkngocaa.PuCanCanPayFrom
set_option linter.unusedVariables false
set_option linter.unusedSimpArgs false

theorem FnExactCanPayFrom (p : Int) (l : List DL) (c : List Int) (_ : (Lit.int .i64 p).wf = true) (hl : l.length ≤ maxLen) (_ : ∀ z ∈ l, (Lit.int .i64 z.f0).wf = true ∧ (Lit.int .i64 z.f1).wf = true ∧ (Lit.int .i64 z.f2).wf = true) (hc : c.length ≤ maxLen) (_ : ∀ z ∈ c, (Lit.int .i64 z).wf = true) : ∃ k, laws_FnExactCanPayFrom.f k p l c = some true := by
  refine Ev.rounds (r := true) ?_
  unfold laws_FnExactCanPayFrom.f
  by_cases h0 : (c.length : Int) > 1048576
  · exact ev_pos h0 (Ev.now _)
  refine ev_neg h0 (ev_bind0 (sz l 1048576 (by omega) (by omega) hl) ?_)
  by_cases h1 : (1048576 : Int) - l.length < 0
  · rw [if_pos h1]; exact Ev.now _
  rw [if_neg h1]
  have t := toS_ev l (by omega)
  have tx := toI_ev c (by omega)
  have hm : (l.map toD).length ≤ maxLen := by rw [List.length_map]; exact hl
  have hml : (l.map toD).length ≤ 1048576 := by rw [List.length_map]; omega
  obtain ⟨r, hr, S, I⟩ := can_both p (l.map toD) c hm hc
  have er := eqI_refl r.1 (by omega)
  have hI : Ev (fun k => laws_eqInt64S.f k c c) true := eqI_any c hc
  have mI := fun (m : Int) (h2 : 0 ≤ m) (h3 : m ≤ 1000000000) => markI_any c m h2 h3 (by omega)
  have hmk := markI_ev r.1 1 (by omega) (by omega) (by omega)
  have hh := heldI_ev r.1.length 1 (by omega) (by omega) (by omega)
  refine ev_neg h1 (Ev.bind t (Ev.bind tx (Ev.bind S (Ev.bind t (Ev.bind tx (Ev.bind I (Ev.bind er (ev_pos rfl ?_))))))))
  rw [bne_self_eq_false]
  refine Ev.step (fun k => by simp only [laws_FnExactCanPayFrom.j0]; rfl) ?_
  refine Ev.bind t (Ev.bind (eqS_refl _ hm) (ev_pos rfl (Ev.bind tx (Ev.bind hI (ev_pos rfl (Ev.bind (markD_at (l.map toD) 1 (by omega) (by omega) (by omega)) (Ev.bind (mI _ (by simp only; omega) (by simp only; omega)) (ev_neg (by simp only; omega) (Ev.bind er (ev_pos rfl ?_))))))))))
  rw [bne_self_eq_false]
  refine Ev.step (fun k => by simp only [laws_FnExactCanPayFrom.j1]; rfl) ?_
  refine Ev.bind hmk (Ev.bind hh (ev_neg (by omega) (ev_pos rfl ?_)))
  refine Ev.bind t (Ev.bind tx (Ev.bind I (Ev.bind er (ev_pos rfl ?_))))
  rw [bne_self_eq_false]
  refine Ev.step (fun k => by simp only [laws_FnExactCanPayFrom.j2]; rfl) ?_
  exact Ev.bind hh (ev_neg (by omega) (ev_pos rfl (Ev.now _)))
end Go.Proofs.Ytofcgkcpkngocaa.Pure
