/- For all numbers of people and lists of debts the program's FindCircle returns what the reference's returns; no condition. -/
import Derived.Test.YtofcgkcpkngocaaMFindCirclex0
import Derived.Test.YtofcgkcpkngocaaMFindCirclex10
import Derived.Test.YtofcgkcpkngocaaVFindCircleEv
import Derived.Test.YtofcgkcpkngocaaPuCircFindCircle
import Derived.Test.YtofcgkcpkngocaaPuIntsFindCircle
import Derived.Test.YtofcgkcpkngocaaPuDebtMFindCircle
namespace Go.Proofs.Ytofcgkcpkngocaa.Pure
open Go.RowKit Go.Proofs.Ytofcgkcpkngocaa.MFindCircle Go.Proofs.YtofcgkcpkngocaaW.PrintWords Go.Proofs.YtofcgkcpkngocaaW.PrintLast Go.Proofs.Ytofcgkcpkngocaa.Evs Go.Proofs.Ytofcgkcpkngocaa.PuDebtFindCircle Go.Proofs.Ytofcgkcpkngocaa.PuCircFindCircle Go.Proofs.Ytofcgkcpkngocaa.PuIntsFindCircle Go.Proofs.Ytofcgkcpkngocaa.PuDebtMFindCircle
set_option linter.unusedVariables false
set_option linter.unusedSimpArgs false

theorem FnExactFindCircle (p : Int) (a : List DL) (_ : (Lit.int .i64 p).wf = true) (ha : a.length ≤ maxLen) (_ : ∀ z ∈ a, (Lit.int .i64 z.f0).wf = true ∧ (Lit.int .i64 z.f1).wf = true ∧ (Lit.int .i64 z.f2).wf = true) : ∃ k, laws_FnExactFindCircle.f k p a = some true := by
  refine Ev.rounds (r := true) ?_
  unfold laws_FnExactFindCircle.f
  refine ev_bind0 (sz a 1048576 (by omega) (by omega) ha) ?_
  by_cases h1 : (1048576 : Int) - a.length < 0
  · rw [if_pos h1]; exact Ev.now _
  rw [if_neg h1]
  refine ev_neg h1 ?_
  have ta := toS_ev a (by omega)
  have la : (a.map toD).length ≤ maxLen := by rw [List.length_map]; exact ha
  have hr := findR_length p (a.map toD)
  have he := eqI_refl (findR p (a.map toD)).1 (by omega)
  obtain ⟨l', _, hm⟩ := markD_ev (a.map toD) 1 (by omega) (by omega) (by rw [List.length_map]; omega)
  refine Ev.bind ta (Ev.bind (FindS_ev p _ la) (Ev.bind ta (Ev.bind (FindI_ev p _ la) (Ev.bind he (ev_pos rfl ?_)))))
  rw [bne_self_eq_false]
  refine Ev.step (fun k => by simp only [laws_FnExactFindCircle.j0]; rfl) ?_
  refine Ev.bind ta (Ev.bind (eqS_refl _ la) (ev_pos rfl (Ev.bind hm ?_)))
  refine ev_neg (by dsimp only; omega) (Ev.bind he (ev_pos rfl ?_))
  rw [bne_self_eq_false]
  have hmk := markI_ev (findR p (a.map toD)).1 1 (by omega) (by omega) (by omega)
  have hhd := heldI_ev (findR p (a.map toD)).1.length 1 (by omega) (by omega) (by omega)
  refine Ev.step (fun k => by simp only [laws_FnExactFindCircle.j1]; rfl) ?_
  refine Ev.bind hmk (Ev.bind hhd ?_)
  refine ev_neg (by omega) (ev_pos rfl ?_)
  refine Ev.bind ta (Ev.bind (FindI_ev p _ la) (Ev.bind he (ev_pos rfl ?_)))
  rw [bne_self_eq_false]
  refine Ev.step (fun k => by simp only [laws_FnExactFindCircle.j2]; rfl) ?_
  refine Ev.bind hhd ?_
  exact ev_neg (by omega) (ev_pos rfl (Ev.now _))
end Go.Proofs.Ytofcgkcpkngocaa.Pure
