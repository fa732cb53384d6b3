/- Debts that are paid in part, offset, passed on. -/
import Derived.Test.YtofcgkcpkngocaaMPayDebtx0
import Derived.Test.YtofcgkcpkngocaaMPayDebtx5
import Derived.Test.YtofcgkcpkngocaaMPayDebtx6
import Derived.Test.YtofcgkcpkngocaaEv
import Derived.Test.YtofcgkcpkngocaaArr
import Derived.Test.YtofcgkcpkngocaaPuDebtPayDebt
import Derived.Test.YtofcgkcpkngocaaPuTablePayDebt
import Derived.Test.YtofcgkcpkngocaaPuTableLPayDebt
namespace Go.Proofs.Ytofcgkcpkngocaa.PuPayPayDebt
open Go.RowKit Go.Proofs.Ytofcgkcpkngocaa.MPayDebt Go.Proofs.YtofcgkcpkngocaaW.PrintWords Go.Proofs.YtofcgkcpkngocaaW.PrintLast Go.Proofs.YtofcgkcpkngocaaW.PrintMore Go.Proofs.Ytofcgkcpkngocaa.Evs Go.Proofs.Ytofcgkcpkngocaa.PuDebtPayDebt Go.Proofs.Ytofcgkcpkngocaa.PuTablePayDebt Go.Proofs.Ytofcgkcpkngocaa.PuTableLPayDebt
set_option linter.unusedVariables false
set_option linter.unusedSimpArgs false
def paidT (t : Tb) (a b c : Int) : Tb := Arr.vst2 16 t a b (wrap64 (Arr.vrd2 16 t a b - c))
def payR (p : Int) (l : List D) (a b c : Int) : List D × Int :=
  if codeD p l [a, b] = 0 then (if 1 ≤ c ∧ c ≤ Arr.vrd2 16 (sumT l) a b then listR (paidT (sumT l) a b c) else ([], 4)) else ([], codeD p l [a, b])
theorem PayS_ev (p : Int) (l : List D) (a b c : Int) (hl : l.length ≤ maxLen) : Ev (fun k => spec_PayDebt.f k p l a b c) (payR p l a b c) := by
  unfold spec_PayDebt.f payR
  refine Ev.bind (twoS_ev p l a b hl) ?_
  by_cases h : codeD p l [a, b] = 0
  · obtain ⟨hv, hw⟩ := code_zero h
    obtain ⟨hp, hp2, h60, hd⟩ := valid_bd hv
    have h1 := hw a (by simp)
    have h2 := hw b (by simp)
    refine ev_ifp h (ev_pos h (Ev.bind (sumsS_ev p l hv) ?_))
    refine ev_pos (by omega) (ev_pos (by omega) (ev_pos (by omega) (ev_pos (by omega) (ev_bind0 (l00In_f _ _ _) ?_))))
    by_cases h3 : 1 ≤ c ∧ c ≤ Arr.vrd2 16 (sumT l) a b
    · exact ev_ifp h3 (ev_pos (by simpa using h3) (Ev.bind (listS_ev _) (Ev.now _)))
    · exact ev_ifn h3 (ev_neg (by simpa using h3) (Ev.now _))
  · exact ev_ifn h (ev_neg h (Ev.now _))
theorem PayI_ev (p : Int) (l : List D) (a b c : Int) (hl : l.length ≤ maxLen) : Ev (fun k => impl_PayDebt.f k p l a b c) (payR p l a b c) := by
  unfold impl_PayDebt.f payR
  refine Ev.bind (codeI_ev p l [a, b] hl (by simp [maxLen])) ?_
  by_cases h : codeD p l [a, b] = 0
  · obtain ⟨hv, hw⟩ := code_zero h
    obtain ⟨hp, hp2, h60, hd⟩ := valid_bd hv
    have h1 := hw a (by simp)
    have h2 := hw b (by simp)
    refine ev_ifp h (ev_pos h (Ev.bind (sumsI_ev p l hv) ?_))
    by_cases h3 : c < 1
    · exact ev_ifn (by omega) (ev_pos h3 (Ev.now _))
    · refine ev_neg h3 (ev_pos (by omega) (ev_pos (by omega) (ev_pos (by omega) (ev_pos (by omega) ?_))))
      by_cases h4 : c > Arr.vrd2 16 (sumT l) a b
      · exact ev_ifn (by omega) (ev_pos h4 (Ev.now _))
      · exact ev_ifp (by omega) (ev_neg h4 (Ev.bind (listI_ev _) (Ev.now _)))
  · exact ev_ifn h (ev_neg h (Ev.now _))
theorem payR_len (p : Int) (l : List D) (a b c : Int) : (payR p l a b c).1.length ≤ 60 := by
  unfold payR
  split
  · split
    · exact listR_len _
    · simp
  · simp
end Go.Proofs.Ytofcgkcpkngocaa.PuPayPayDebt
