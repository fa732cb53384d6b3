/- For all numbers of people and two lists of debts the program's IsCleared returns what the reference's returns; no condition. -/
import Derived.Test.YtofcgkcpkngocaaMIsClearedx0
import Derived.Test.YtofcgkcpkngocaaMIsClearedx5
import Derived.Test.YtofcgkcpkngocaaMIsClearedx8
import Derived.Test.YtofcgkcpkngocaaMIsClearedx9
import Derived.Test.YtofcgkcpkngocaaVIsClearedEv
import Derived.Test.YtofcgkcpkngocaaPuSumNetsIsCleared
import Derived.Test.YtofcgkcpkngocaaPuSameIIsCleared
import Derived.Test.YtofcgkcpkngocaaPuTableIsCleared
import Derived.Test.YtofcgkcpkngocaaPuTableLIsCleared
import Derived.Test.YtofcgkcpkngocaaPuCircIsCleared
namespace Go.Proofs.Ytofcgkcpkngocaa.Pure
open Go.RowKit Go.Proofs.Ytofcgkcpkngocaa.MIsCleared Go.Proofs.YtofcgkcpkngocaaW.PrintWords Go.Proofs.YtofcgkcpkngocaaW.PrintLast Go.Proofs.Ytofcgkcpkngocaa.Evs Go.Proofs.Ytofcgkcpkngocaa.PuDebtIsCleared Go.Proofs.Ytofcgkcpkngocaa.PuSameIIsCleared Go.Proofs.Ytofcgkcpkngocaa.PuTableIsCleared Go.Proofs.Ytofcgkcpkngocaa.PuTableLIsCleared Go.Proofs.Ytofcgkcpkngocaa.PuCircIsCleared
open Go.Proofs.Ytofcgkcpkngocaa.PuSumNetsIsCleared (netsW netsS_ev netsI_ev netsW_length)
set_option linter.unusedVariables false
set_option linter.unusedSimpArgs false

noncomputable def clearR (p : Int) (a b : List D) : Bool × Int := if valid p a = true ∧ valid p b = true then ((circleM (sumT b)).isNone && dec (netsW p a = netsW p b), 0) else (false, 1)
theorem clearS_ev (p : Int) (a b : List D) (ha : a.length ≤ maxLen) (hb : b.length ≤ maxLen) : Ev (fun k => spec_IsCleared.f k p a b) (clearR p a b) := by
  unfold spec_IsCleared.f clearR
  refine Ev.bind (l02Ok_ev p a ha) ?_
  have hf : Ev (fun k => spec_IsCleared.j0 k p a b true) (false, 1) := Ev.step (f := fun _ => some (false, 1)) (fun k => by simp only [spec_IsCleared.j0]; rfl) (Ev.now _)
  by_cases hv : valid p a = true
  · refine ev_pos hv (Ev.bind (l02Ok_ev p b hb) ?_)
    by_cases hw : valid p b = true
    · rw [if_pos ⟨hv, hw⟩, hw]
      refine Ev.step (fun k => by rw [spec_IsCleared.j0]) (ev_neg (by simp) ?_)
      refine Ev.bind (sumsS_ev p b hw) (Ev.bind (circleS_ev _) ?_)
      cases hc : circleM (sumT b) with
      | some r => exact ev_pos rfl (Ev.now _)
      | none =>
        refine ev_neg (by simp) (Ev.bind (netsS_ev p a hv) (Ev.bind (netsS_ev p b hw) (Ev.bind (l00Same_ev _ _ ?_) (ev_eq (Ev.now _) (by simp)))))
        have := valid_bd hv
        rw [netsW_length]; unfold maxLen; omega
    · rw [if_neg (fun z => hw z.2), Bool.eq_false_iff.mpr hw]
      exact hf
  · rw [if_neg (fun z => hv z.1)]
    exact ev_neg hv hf
theorem clearI_ev (p : Int) (a b : List D) (ha : a.length ≤ maxLen) (hb : b.length ≤ maxLen) : Ev (fun k => impl_IsCleared.f k p a b) (clearR p a b) := by
  unfold impl_IsCleared.f clearR
  refine Ev.bind (ValidI_ev p a ha) ?_
  have hf : Ev (fun k => impl_IsCleared.j0 k p a b true) (false, 1) := Ev.step (f := fun _ => some (false, 1)) (fun k => by simp only [impl_IsCleared.j0]; rfl) (Ev.now _)
  by_cases hv : valid p a = true
  · refine ev_pos hv (Ev.bind (ValidI_ev p b hb) ?_)
    by_cases hw : valid p b = true
    · rw [if_pos ⟨hv, hw⟩, hw]
      refine Ev.step (fun k => by rw [impl_IsCleared.j0]) (ev_neg (by simp) ?_)
      refine Ev.bind (sumsI_ev p b hw) (Ev.bind (netsI_ev p a hv) (Ev.bind (netsI_ev p b hw) (Ev.bind (equalI_ev _ _ ?_) ?_)))
      · have := valid_bd hv
        rw [netsW_length]; unfold maxLen; omega
      by_cases hn : netsW p a = netsW p b
      · rw [dec_true hn]
        refine ev_pos rfl (Ev.bind (circleI_ev _) (ev_eq (Ev.now _) ?_))
        cases hc : circleM (sumT b) with
        | none => simp [listO]
        | some r =>
          have hr := circleM_ne hc
          have hz : ¬ ((r.length : Int) = 0) := fun z => hr (List.eq_nil_of_length_eq_zero (by exact Int.ofNat.inj z))
          simp [listO, hr]
      · rw [dec_false hn]
        exact ev_neg (by simp) (ev_eq (Ev.now _) (by simp))
    · rw [if_neg (fun z => hw z.2), Bool.eq_false_iff.mpr hw]
      exact hf
  · rw [if_neg (fun z => hv z.1)]
    exact ev_neg hv hf
theorem FnExactIsCleared (p : Int) (a b : List DL) (_ : (Lit.int .i64 p).wf = true) (ha : a.length ≤ maxLen) (_ : ∀ z ∈ a, (Lit.int .i64 z.f0).wf = true ∧ (Lit.int .i64 z.f1).wf = true ∧ (Lit.int .i64 z.f2).wf = true)
    (hb : b.length ≤ maxLen) (_ : ∀ z ∈ b, (Lit.int .i64 z.f0).wf = true ∧ (Lit.int .i64 z.f1).wf = true ∧ (Lit.int .i64 z.f2).wf = true) : ∃ k, laws_FnExactIsCleared.f k p a b = some true := by
  refine Ev.rounds (r := true) ?_
  unfold laws_FnExactIsCleared.f
  refine ev_bind0 (sz a 1048576 (by omega) (by omega) ha) ?_
  by_cases h1 : (1048576 : Int) - a.length < 0
  · rw [if_pos h1]; exact Ev.now _
  rw [if_neg h1]
  refine ev_neg h1 (ev_bind0 (sz b _ (by omega) (by omega) hb) ?_)
  by_cases h2 : (1048576 : Int) - a.length - b.length < 0
  · rw [if_pos h2]; exact Ev.now _
  rw [if_neg h2]
  refine ev_neg h2 ?_
  have ta := toS_ev a (by omega)
  have tb := toS_ev b (by omega)
  have la : (a.map toD).length ≤ maxLen := by rw [List.length_map]; exact ha
  have lb : (b.map toD).length ≤ maxLen := by rw [List.length_map]; exact hb
  refine Ev.bind ta (Ev.bind tb (Ev.bind (clearS_ev p _ _ la lb) (Ev.bind ta (Ev.bind tb (Ev.bind (clearI_ev p _ _ la lb) ?_)))))
  refine ev_neg (by simp) ?_
  rw [bne_self_eq_false]
  refine Ev.step (fun k => by simp only [laws_FnExactIsCleared.j0]; rfl) ?_
  refine Ev.bind ta (Ev.bind (eqS_refl _ la) ?_)
  refine ev_pos rfl (Ev.bind tb (Ev.bind (eqS_refl _ lb) ?_))
  exact ev_pos rfl (Ev.now _)
end Go.Proofs.Ytofcgkcpkngocaa.Pure
