/- Are debts cleared? -/
import Derived.Test.YtofcgkcpkngocaaMCirclesx0
import Derived.Test.YtofcgkcpkngocaaMCirclesx14
import Derived.Test.YtofcgkcpkngocaaVCirclesEv
import Derived.Test.YtofcgkcpkngocaaPuSumNetsCircles
import Derived.Test.YtofcgkcpkngocaaPuSameICircles
import Derived.Test.YtofcgkcpkngocaaPuTableCircles
import Derived.Test.YtofcgkcpkngocaaPuTableLCircles
import Derived.Test.YtofcgkcpkngocaaPuCircCircles
namespace Go.Proofs.Ytofcgkcpkngocaa.PuIsClCircles
open Go.RowKit MCircles Go.Proofs.YtofcgkcpkngocaaW.PrintWords Go.Proofs.YtofcgkcpkngocaaW.PrintLast Evs PuDebtCircles PuSameICircles PuTableCircles PuTableLCircles PuCircCircles
open PuSumNetsCircles (netsW netsS_ev netsI_ev netsW_length)
set_option linter.unusedVariables false
set_option linter.unusedSimpArgs false

noncomputable def clearR (p : Int) (a b : List D) : Bool × Int := if valid p a = true ∧ valid p b = true then ((circleM (sumT b)).isNone && dec (netsW p a = netsW p b), 0) else (false, 1)
theorem clearI_ev (p : Int) (a b : List D) (ha : a.length ≤ maxLen) (hb : b.length ≤ maxLen) : Ev (fun k => impl_IsCleared.f k p a b) (clearR p a b) := by
  unfold impl_IsCleared.f clearR
  refine Ev.bind (ValidI_ev p a ha) ?_
  have hf : Ev (fun k => impl_IsCleared.j0 k p a b true) (false, 1) := Ev.step (f := fun _ => some (false, 1)) (fun k => by simp only [impl_IsCleared.j0]; rfl) (Ev.now _)
  by_cases hv : valid p a = true
  · refine ev_pos hv (Ev.bind (ValidI_ev p b hb) ?_)
    by_cases hw : valid p b = true
    · rw [if_pos ⟨hv, hw⟩, hw]
      refine Ev.step (fun k => by rw [impl_IsCleared.j0]) (ev_neg (by simp) ?_)
      refine Ev.bind (sumsI_ev p b hw) (Ev.bind (netsI_ev p a hv) (Ev.bind (netsI_ev p b hw) (Ev.bind (equalI_ev _ _ ?_) ?_)))
      · have := valid_bd hv
        rw [netsW_length]; unfold maxLen; omega
      by_cases hn : netsW p a = netsW p b
      · rw [dec_true hn]
        refine ev_pos rfl (Ev.bind (circleI_ev _) (ev_eq (Ev.now _) ?_))
        cases hc : circleM (sumT b) with
        | none => simp [listO]
        | some r =>
          have hr := circleM_ne hc
          have hz : ¬ ((r.length : Int) = 0) := fun z => hr (List.eq_nil_of_length_eq_zero (by exact Int.ofNat.inj z))
          simp [listO, hr]
      · rw [dec_false hn]
        exact ev_neg (by simp) (ev_eq (Ev.now _) (by simp))
    · rw [if_neg (fun z => hw z.2), Bool.eq_false_iff.mpr hw]
      exact hf
  · rw [if_neg (fun z => hv z.1)]
    exact ev_neg hv hf
end Go.Proofs.Ytofcgkcpkngocaa.PuIsClCircles
