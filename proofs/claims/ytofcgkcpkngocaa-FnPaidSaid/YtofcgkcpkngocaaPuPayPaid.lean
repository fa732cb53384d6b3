/- Debts that are paid in part, offset, passed on. -/
import Derived.Test.YtofcgkcpkngocaaMPaidx0
import Derived.Test.YtofcgkcpkngocaaMPaidx6
import Derived.Test.YtofcgkcpkngocaaMPaidx7
import Derived.Test.YtofcgkcpkngocaaMPaidx8
import Derived.Test.YtofcgkcpkngocaaMPaidx9
import Derived.Test.YtofcgkcpkngocaaVPaidEv
import Derived.Test.YtofcgkcpkngocaaVPaidArr
import Derived.Test.YtofcgkcpkngocaaPuDebtPaid
import Derived.Test.YtofcgkcpkngocaaPuTablePaid
import Derived.Test.YtofcgkcpkngocaaPuTableLPaid
namespace Go.Proofs.Ytofcgkcpkngocaa.PuPayPaid
open Go.RowKit Go.Proofs.Ytofcgkcpkngocaa.MPaid Go.Proofs.YtofcgkcpkngocaaW.PrintWords Go.Proofs.YtofcgkcpkngocaaW.PrintLast Go.Proofs.YtofcgkcpkngocaaW.PrintMore Go.Proofs.Ytofcgkcpkngocaa.Evs Go.Proofs.Ytofcgkcpkngocaa.PuDebtPaid Go.Proofs.Ytofcgkcpkngocaa.PuTablePaid Go.Proofs.Ytofcgkcpkngocaa.PuTableLPaid
set_option linter.unusedVariables false
set_option linter.unusedSimpArgs false
def paidT (t : Tb) (a b c : Int) : Tb := Arr.vst2 16 t a b (wrap64 (Arr.vrd2 16 t a b - c))
def payR (p : Int) (l : List D) (a b c : Int) : List D × Int :=
  if codeD p l [a, b] = 0 then (if 1 ≤ c ∧ c ≤ Arr.vrd2 16 (sumT l) a b then listR (paidT (sumT l) a b c) else ([], 4)) else ([], codeD p l [a, b])
theorem PayS_ev (p : Int) (l : List D) (a b c : Int) (hl : l.length ≤ maxLen) : Ev (fun k => spec_PayDebt.f k p l a b c) (payR p l a b c) := by
  unfold spec_PayDebt.f payR
  refine Ev.bind (twoS_ev p l a b hl) ?_
  by_cases h : codeD p l [a, b] = 0
  · obtain ⟨hv, hw⟩ := code_zero h
    obtain ⟨hp, hp2, h60, hd⟩ := valid_bd hv
    have h1 := hw a (by simp)
    have h2 := hw b (by simp)
    refine ev_ifp h (ev_pos h (Ev.bind (sumsS_ev p l hv) ?_))
    refine ev_pos (by omega) (ev_pos (by omega) (ev_pos (by omega) (ev_pos (by omega) (ev_bind0 (l00In_f _ _ _) ?_))))
    by_cases h3 : 1 ≤ c ∧ c ≤ Arr.vrd2 16 (sumT l) a b
    · exact ev_ifp h3 (ev_pos (by simpa using h3) (Ev.bind (listS_ev _) (Ev.now _)))
    · exact ev_ifn h3 (ev_neg (by simpa using h3) (Ev.now _))
  · exact ev_ifn h (ev_neg h (Ev.now _))
theorem PayI_ev (p : Int) (l : List D) (a b c : Int) (hl : l.length ≤ maxLen) : Ev (fun k => impl_PayDebt.f k p l a b c) (payR p l a b c) := by
  unfold impl_PayDebt.f payR
  refine Ev.bind (codeI_ev p l [a, b] hl (by simp [maxLen])) ?_
  by_cases h : codeD p l [a, b] = 0
  · obtain ⟨hv, hw⟩ := code_zero h
    obtain ⟨hp, hp2, h60, hd⟩ := valid_bd hv
    have h1 := hw a (by simp)
    have h2 := hw b (by simp)
    refine ev_ifp h (ev_pos h (Ev.bind (sumsI_ev p l hv) ?_))
    by_cases h3 : c < 1
    · exact ev_ifn (by omega) (ev_pos h3 (Ev.now _))
    · refine ev_neg h3 (ev_pos (by omega) (ev_pos (by omega) (ev_pos (by omega) (ev_pos (by omega) ?_))))
      by_cases h4 : c > Arr.vrd2 16 (sumT l) a b
      · exact ev_ifn (by omega) (ev_pos h4 (Ev.now _))
      · exact ev_ifp (by omega) (ev_neg h4 (Ev.bind (listI_ev _) (Ev.now _)))
  · exact ev_ifn h (ev_neg h (Ev.now _))
theorem payR_len (p : Int) (l : List D) (a b c : Int) : (payR p l a b c).1.length ≤ 60 := by
  unfold payR
  split
  · split
    · exact listR_len _
    · simp
  · simp
/-! offset -/
def offT (t : Tb) (i k : Nat) : Tb :=
  let m := mn (tg t i k) (tg t k i)
  Arr.vst2 16 (Arr.vst2 16 t (i : Int) (k : Int) (wrap64 (tg t i k - m))) (k : Int) (i : Int) (wrap64 (tg (Arr.vst2 16 t (i : Int) (k : Int) (wrap64 (tg t i k - m))) k i - m))
def offRow (i : Nat) : Nat → Nat → Tb → Tb
  | 0, _, t => t
  | n + 1, k, t => offRow i n (k + 1) (offT t i k)
def offAll : Nat → Nat → Tb → Tb
  | 0, _, t => t
  | n + 1, i, t => offAll n (i + 1) (offRow i i 0 t)
theorem offRow_step (i k : Nat) (t : Tb) (h : k < i) : offRow i (i - k) k t = offRow i (i - (k + 1)) (k + 1) (offT t i k) := by
  rw [show i - k = (i - (k + 1)) + 1 by omega]; rfl
theorem offAll_step (i : Nat) (t : Tb) (h : i < 16) : offAll (16 - i) i t = offAll (16 - (i + 1)) (i + 1) (offRow i i 0 t) := by
  rw [show 16 - i = (16 - (i + 1)) + 1 by omega]; rfl
theorem min_mn (a b : Int) : spec_l00Min.f a b = some (mn a b) := by
  unfold spec_l00Min.f mn
  by_cases h : a < b
  · rw [if_pos h]; (repeat' split) <;> first | rfl | (congr 1; omega)
  · rw [if_neg h]; (repeat' split) <;> first | rfl | (congr 1; omega)
def offR (p : Int) (l : List D) : List D × Int := if (joinR p l).2 = 0 then listR (offAll 16 0 (sumT l)) else ([], (joinR p l).2)
theorem offR_len (p : Int) (l : List D) : (offR p l).1.length ≤ 60 := by
  unfold offR
  split
  · exact listR_len _
  · simp
/-! pass -/
def passT (t : Tb) (a b n c : Int) : Tb :=
  let t1 := Arr.vst2 16 t a b (wrap64 (Arr.vrd2 16 t a b - c))
  let t2 := Arr.vst2 16 t1 b n (wrap64 (Arr.vrd2 16 t1 b n - c))
  if a = n then t2 else Arr.vst2 16 t2 a n (wrap64 (Arr.vrd2 16 t2 a n + c))
def passOk (t : Tb) (a b n c : Int) : Bool := decide (a ≠ b ∧ b ≠ n ∧ 1 ≤ c ∧ c ≤ Arr.vrd2 16 t a b ∧ c ≤ Arr.vrd2 16 t b n)
def passR (p : Int) (l : List D) (a b n c : Int) : List D × Int :=
  if codeD p l [a, b, n] = 0 then (if passOk (sumT l) a b n c = true then listR (passT (sumT l) a b n c) else ([], 4)) else ([], codeD p l [a, b, n])
theorem mn_ge (a b c : Int) : c ≤ mn a b ↔ c ≤ a ∧ c ≤ b := by
  unfold mn
  repeat' split
  all_goals omega
theorem code_three (p : Int) (l : List D) (a b n : Int) : codeD p l [a, b, n] = if codeD p l [a, b] = 0 then (if 0 ≤ n ∧ n < p then 0 else 2) else codeD p l [a, b] := by
  unfold codeD
  by_cases hv : valid p l = true
  · rw [if_pos hv, if_pos hv]
    simp only [arePs, okP, List.all_cons, List.all_nil, Bool.and_true, Bool.and_eq_true, decide_eq_true_eq]
    by_cases h1 : 0 ≤ a ∧ a < p
    · by_cases h2 : 0 ≤ b ∧ b < p
      · by_cases h3 : 0 ≤ n ∧ n < p <;> simp [h1, h2, h3]
      · simp [h1, h2]
    · simp [h1]
  · rw [if_neg hv, if_neg hv]; rfl
theorem passS_bad (k2 : List D × Int) (t : Tb) (a b n c : Int) (h : k2 = ([], 4)) : Ev (fun k => spec_PassDebt.j2 k a b n c true t) k2 := by
  subst h
  exact Ev.step (f := fun _ => some ([], 4)) (fun k => by simp only [spec_PassDebt.j2]; rfl) (Ev.now _)
theorem passS_good (t : Tb) (a b n c : Int) (ha : 0 ≤ a ∧ a < 16) (hb : 0 ≤ b ∧ b < 16) (hn : 0 ≤ n ∧ n < 16) : Ev (fun k => spec_PassDebt.j2 k a b n c false t) (listR (passT t a b n c)) := by
  refine Ev.step (fun k => by simp only [spec_PassDebt.j2, Option.bind_some]; rfl) (ev_neg (by simp) ?_)
  refine ev_pos ha.1 (ev_pos ha.2 (ev_pos hb.1 (ev_pos hb.2 (ev_pos hn.1 (ev_pos hn.2 ?_)))))
  unfold passT
  by_cases h : a = n
  · rw [if_pos h]
    exact ev_pos h (Ev.bind (listS_ev _) (Ev.now _))
  · rw [if_neg h]
    exact ev_neg h (Ev.bind (listS_ev _) (Ev.now _))
theorem passI_good (t : Tb) (a b n c : Int) (ha : 0 ≤ a ∧ a < 16) (hb : 0 ≤ b ∧ b < 16) (hn : 0 ≤ n ∧ n < 16) : Ev (fun k => impl_PassDebt.j0 k a b n c false t) (listR (passT t a b n c)) := by
  refine Ev.step (fun k => by simp only [impl_PassDebt.j0, Option.bind_some]; rfl) (ev_neg (by simp) ?_)
  refine ev_pos ha.1 (ev_pos ha.2 (ev_pos hb.1 (ev_pos hb.2 (ev_pos hn.1 (ev_pos hn.2 ?_)))))
  unfold passT
  by_cases h : a = n
  · rw [if_pos h]
    exact ev_pos h (Ev.bind (listI_ev _) (Ev.now _))
  · rw [if_neg h]
    exact ev_neg h (Ev.bind (listI_ev _) (Ev.now _))
theorem PassS_ev (p : Int) (l : List D) (a b n c : Int) (hl : l.length ≤ maxLen) : Ev (fun k => spec_PassDebt.f k p l a b n c) (passR p l a b n c) := by
  unfold spec_PassDebt.f
  refine Ev.bind (twoS_ev p l a b hl) ?_
  have j1bad : ∀ x : Int, x ≠ 0 → codeD p l [a, b, n] = x → Ev (fun k => spec_PassDebt.j1 k l a b n c x) (passR p l a b n c) := by
    intro x hx he
    unfold passR
    rw [he]
    exact ev_ifn hx (Ev.step (fun k => by simp only [spec_PassDebt.j1]; rfl) (ev_neg hx (Ev.now _)))
  have e3 := code_three p l a b n
  by_cases h : codeD p l [a, b] = 0
  · obtain ⟨hv, hw⟩ := code_zero h
    obtain ⟨hp, hp2, h60, hd⟩ := valid_bd hv
    have h1 := hw a (by simp)
    have h2 := hw b (by simp)
    rw [if_pos h] at e3
    rw [h]
    refine ev_pos rfl (ev_bind0 (l02Person_f p n hp hp2) ?_)
    by_cases h3 : 0 ≤ n ∧ n < p
    · rw [if_pos h3] at e3
      rw [decide_eq_true h3]
      refine Ev.step (f := fun k => spec_PassDebt.j1 k l a b n c 0) (fun k => by simp only [spec_PassDebt.j0]; rfl) ?_
      refine Ev.step (fun k => by rw [spec_PassDebt.j1]) ?_
      refine ev_pos (c := (0 : Int) = 0) rfl (Ev.bind (sumsS_ev p l hv) ?_)
      unfold passR
      refine ev_ifp e3 ?_
      by_cases g1 : a = b
      · have hk : passOk (sumT l) a b n c = false := decide_eq_false (fun z => z.1 g1)
        refine ev_pos g1 (passS_bad _ _ _ _ _ _ (if_neg (by rw [hk]; simp)))
      · refine ev_neg g1 ?_
        by_cases g2 : b = n
        · have hk : passOk (sumT l) a b n c = false := decide_eq_false (fun z => z.2.1 g2)
          refine ev_pos g2 (passS_bad _ _ _ _ _ _ (if_neg (by rw [hk]; simp)))
        · refine ev_neg g2 (ev_pos (by omega) (ev_pos (by omega) (ev_pos (by omega) (ev_pos (by omega) (ev_pos (by omega) (ev_pos (by omega) ?_))))))
          refine ev_bind0 (min_mn _ _) (ev_bind0 (l00In_f _ _ _) ?_)
          by_cases g3 : 1 ≤ c ∧ c ≤ mn (Arr.vrd2 16 (sumT l) a b) (Arr.vrd2 16 (sumT l) b n)
          · have g4 := (mn_ge _ _ _).1 g3.2
            have hk : passOk (sumT l) a b n c = true := decide_eq_true ⟨g1, g2, g3.1, g4.1, g4.2⟩
            rw [decide_eq_true g3]
            exact ev_ifp hk (passS_good _ _ _ _ _ ⟨by omega, by omega⟩ ⟨by omega, by omega⟩ ⟨by omega, by omega⟩)
          · have hk : passOk (sumT l) a b n c = false := decide_eq_false (fun z => g3 ⟨z.2.2.1, (mn_ge _ _ _).2 ⟨z.2.2.2.1, z.2.2.2.2⟩⟩)
            rw [decide_eq_false g3]
            exact passS_bad _ _ _ _ _ _ (if_neg (by rw [hk]; simp))
    · rw [if_neg h3] at e3
      rw [decide_eq_false h3]
      exact Ev.step (f := fun k => spec_PassDebt.j1 k l a b n c 2) (fun k => by simp only [spec_PassDebt.j0]; rfl) (j1bad 2 (by decide) e3)
  · rw [if_neg h] at e3
    refine ev_neg h (Ev.step (f := fun k => spec_PassDebt.j1 k l a b n c (codeD p l [a, b])) (fun k => by simp only [spec_PassDebt.j0]; rfl) (j1bad _ h e3))
theorem PassI_ev (p : Int) (l : List D) (a b n c : Int) (hl : l.length ≤ maxLen) : Ev (fun k => impl_PassDebt.f k p l a b n c) (passR p l a b n c) := by
  unfold impl_PassDebt.f passR
  refine Ev.bind (codeI_ev p l [a, b, n] hl (by simp [maxLen])) ?_
  by_cases h : codeD p l [a, b, n] = 0
  · obtain ⟨hv, hw⟩ := code_zero h
    obtain ⟨hp, hp2, h60, hd⟩ := valid_bd hv
    have h1 := hw a (by simp)
    have h2 := hw b (by simp)
    have h3 := hw n (by simp)
    refine ev_ifp h (ev_pos h (Ev.bind (sumsI_ev p l hv) ?_))
    have bad : passOk (sumT l) a b n c = false → Ev (fun k => impl_PassDebt.j0 k a b n c true (sumT l)) (if passOk (sumT l) a b n c = true then listR (passT (sumT l) a b n c) else ([], 4)) := by
      intro hk
      exact ev_ifn (by rw [hk]; simp) (Ev.step (f := fun _ => some ([], 4)) (fun k => by simp only [impl_PassDebt.j0]; rfl) (Ev.now _))
    by_cases g1 : a = b
    · exact ev_pos g1 (bad (decide_eq_false (fun z => z.1 g1)))
    refine ev_neg g1 ?_
    by_cases g2 : b = n
    · exact ev_pos g2 (bad (decide_eq_false (fun z => z.2.1 g2)))
    refine ev_neg g2 ?_
    by_cases g3 : c < 1
    · exact ev_pos g3 (bad (decide_eq_false (fun z => by omega)))
    refine ev_neg g3 (ev_pos (by omega) (ev_pos (by omega) (ev_pos (by omega) (ev_pos (by omega) ?_))))
    by_cases g4 : c > Arr.vrd2 16 (sumT l) a b
    · exact ev_pos g4 (bad (decide_eq_false (fun z => by omega)))
    refine ev_neg g4 (ev_pos (by omega) (ev_pos (by omega) ?_))
    by_cases g5 : c > Arr.vrd2 16 (sumT l) b n
    · rw [decide_eq_true g5]
      exact bad (decide_eq_false (fun z => by omega))
    · rw [decide_eq_false g5]
      exact ev_ifp (decide_eq_true ⟨g1, g2, by omega, by omega, by omega⟩) (passI_good _ _ _ _ _ ⟨by omega, by omega⟩ ⟨by omega, by omega⟩ ⟨by omega, by omega⟩)
  · exact ev_ifn h (ev_neg h (Ev.now _))
theorem passR_len (p : Int) (l : List D) (a b n c : Int) : (passR p l a b n c).1.length ≤ 60 := by
  unfold passR
  split
  · split
    · exact listR_len _
    · simp
  · simp
end Go.Proofs.Ytofcgkcpkngocaa.PuPayPaid
