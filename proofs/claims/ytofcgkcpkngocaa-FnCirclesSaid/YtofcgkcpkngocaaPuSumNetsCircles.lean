/- Sums and nets of debts. -/
import Derived.Test.YtofcgkcpkngocaaMCirclesx0
import Derived.Test.YtofcgkcpkngocaaMCirclesx14
import Derived.Test.YtofcgkcpkngocaaMCirclesx15
import Derived.Test.YtofcgkcpkngocaaMCirclesx16
import Derived.Test.YtofcgkcpkngocaaVCirclesEv
import Derived.Test.YtofcgkcpkngocaaPuDebtCircles
namespace Go.Proofs.Ytofcgkcpkngocaa.PuSumNetsCircles
open Go.RowKit MCircles Go.Proofs.YtofcgkcpkngocaaW.PrintWords Go.Proofs.YtofcgkcpkngocaaW.PrintLast Evs PuDebtCircles
set_option linter.unusedVariables false
set_option linter.unusedSimpArgs false

def sumD (l : List D) : Int := (l.map (·.f2)).sum
theorem sumD_drop (l : List D) (i : Nat) (h : i < l.length) : sumD (l.drop i) = l[i].f2 + sumD (l.drop (i + 1)) := by
  rw [List.drop_eq_getElem_cons h]; rfl
theorem valid_bd {p : Int} {l : List D} (h : valid p l = true) : 1 ≤ p ∧ p ≤ 16 ∧ l.length ≤ 60 ∧ ∀ d ∈ l, 0 ≤ d.f0 ∧ d.f0 < p ∧ 0 ≤ d.f1 ∧ d.f1 < p ∧ d.f0 ≠ d.f1 ∧ 1 ≤ d.f2 ∧ d.f2 ≤ 100000000 := by
  simp only [valid, Bool.and_eq_true, decide_eq_true_eq, List.all_eq_true] at h
  exact ⟨h.1.1, h.1.2.1, h.1.2.2, fun d hd => of_decide_eq_true (h.2 d hd)⟩
def sumR (p : Int) (l : List D) : Int × Int := if valid p l = true then (sumD l, 0) else (0, 1)
theorem SumI_ev (p : Int) (l : List D) (hl : l.length ≤ maxLen) : Ev (fun k => impl_SumOfDebts.f k p l) (sumR p l) := by
  unfold impl_SumOfDebts.f sumR
  refine Ev.bind (ValidI_ev p l hl) ?_
  by_cases hv : valid p l = true
  · obtain ⟨hp, hp2, h60, hd⟩ := valid_bd hv
    refine ev_pos hv ?_
    rw [if_pos hv]
    refine ev_eq (ev_forI (n := l.length) (G := fun k s i => impl_SumOfDebts.l0 k s l (l.length : Int) i) (F := fun s i => (s + sumD (l.drop i), 0)) (I := fun s i => 0 ≤ s ∧ s ≤ (i : Int) * 100000000)
      (fun i hi ih s hI => by
        have hb := hd l[i] (List.getElem_mem hi)
        refine ev_eq (Ev.step (f := fun k => impl_SumOfDebts.l0 k (s + l[i].f2) l (l.length : Int) ((i : Int) + 1)) (fun k => ?_) (ih (s + l[i].f2) ⟨by omega, by omega⟩)) ?_
        · simp only [impl_SumOfDebts.l0]
          rw [if_pos o_, if_pos o_, if_pos o_, rdD l i hi, wrap_up hi o_, wrap_id o_ o_]
        · rw [sumD_drop l i hi, Int.add_assoc])
      (fun s hI => by
        refine ev_eq (Ev.step (f := fun _ => some (s, 0)) (fun k => ?_) (Ev.now _)) ?_
        · simp only [impl_SumOfDebts.l0]; rw [if_neg o_]
        · simp [sumD]) 0 o_ 0 (by simp)) ?_
    simp
  · refine ev_neg hv ?_
    rw [if_neg hv]
    exact Ev.now _

/-- one debt's part in the nets, as the machine reckons -/
def netW (x : List Int) (d : D) : List Int :=
  (x.set d.f0.toNat (wrap64 (rd x d.f0 - d.f2))).set d.f1.toNat (wrap64 (rd (x.set d.f0.toNat (wrap64 (rd x d.f0 - d.f2))) d.f1 + d.f2))
def netsW (p : Int) (l : List D) : List Int := l.foldl netW (List.replicate p.toNat 0)
theorem netW_length (x : List Int) (d : D) : (netW x d).length = x.length := by simp [netW]
theorem fold_drop (l : List D) (x : List Int) (i : Nat) (h : i < l.length) : (l.drop i).foldl netW x = (l.drop (i + 1)).foldl netW (netW x l[i]) := by
  rw [List.drop_eq_getElem_cons h]; rfl
theorem netsS_ev (p : Int) (l : List D) (hv : valid p l = true) : Ev (fun k => spec_l02Nets.f k p l) (netsW p l) := by
  obtain ⟨hp, hp2, h60, hd⟩ := valid_bd hv
  unfold spec_l02Nets.f netsW
  refine ev_pos o_ (ev_pos o_ ?_)
  exact ev_forI (n := l.length) (G := fun k s i => spec_l02Nets.l0 k l s i) (F := fun s i => (l.drop i).foldl netW s) (I := fun s _ => (s.length : Int) = p)
      (fun i hi ih s hI => by
        have hb := hd l[i] (List.getElem_mem hi)
        refine ev_eq (Ev.step (f := fun k => spec_l02Nets.l0 k l (netW s l[i]) ((i : Int) + 1)) (fun k => ?_) (ih (netW s l[i]) (by rw [netW_length]; exact hI))) ?_
        · simp only [spec_l02Nets.l0, Option.bind_some]
          rw [if_pos o_, if_pos o_, rdD l i hi, if_pos o_, if_pos o_, if_pos o_, if_pos o_, wrap_up hi o_]
          rfl
        · rw [fold_drop l s i hi])
      (fun s hI => by
        refine ev_eq (Ev.step (f := fun _ => some s) (fun k => ?_) (Ev.now _)) ?_
        · simp only [spec_l02Nets.l0]; rw [if_neg o_]
        · simp) 0 o_ _ (by rw [List.length_replicate]; omega)
theorem netsI_ev (p : Int) (l : List D) (hv : valid p l = true) : Ev (fun k => impl_nets.f k p l) (netsW p l) := by
  obtain ⟨hp, hp2, h60, hd⟩ := valid_bd hv
  unfold impl_nets.f netsW
  refine ev_pos o_ (ev_pos o_ ?_)
  exact ev_forI (n := l.length) (G := fun k s i => impl_nets.l0 k s l (l.length : Int) i) (F := fun s i => (l.drop i).foldl netW s) (I := fun s _ => (s.length : Int) = p)
      (fun i hi ih s hI => by
        have hb := hd l[i] (List.getElem_mem hi)
        refine ev_eq (Ev.step (f := fun k => impl_nets.l0 k (netW s l[i]) l (l.length : Int) ((i : Int) + 1)) (fun k => ?_) (ih (netW s l[i]) (by rw [netW_length]; exact hI))) ?_
        · simp only [impl_nets.l0, Option.bind_some]
          rw [if_pos o_, if_pos o_, if_pos o_, rdD l i hi, if_pos o_, if_pos o_, if_pos o_, if_pos o_, wrap_up hi o_]
          rfl
        · rw [fold_drop l s i hi])
      (fun s hI => by
        refine ev_eq (Ev.step (f := fun _ => some s) (fun k => ?_) (Ev.now _)) ?_
        · simp only [impl_nets.l0]; rw [if_neg o_]
        · simp) 0 o_ _ (by rw [List.length_replicate]; omega)
def netsR (p : Int) (l : List D) : List Int × Int := if valid p l = true then (netsW p l, 0) else ([], 1)
theorem netsW_length (p : Int) (l : List D) : (netsW p l).length = p.toNat := by
  unfold netsW
  have : ∀ (l : List D) (x : List Int), (l.foldl netW x).length = x.length := by
    intro l
    induction l with
    | nil => intro x; rfl
    | cons d l ih => intro x; rw [List.foldl_cons, ih, netW_length]
  rw [this, List.length_replicate]
theorem NetsS_ev (p : Int) (l : List D) (hl : l.length ≤ maxLen) : Ev (fun k => spec_NetsOf.f k p l) (netsR p l) := by
  unfold spec_NetsOf.f netsR
  refine Ev.bind (l02Ok_ev p l hl) ?_
  by_cases hv : valid p l = true
  · refine ev_pos hv (Ev.bind (netsS_ev p l hv) ?_)
    rw [if_pos hv]; exact Ev.now _
  · refine ev_neg hv ?_
    rw [if_neg hv]; exact Ev.now _
theorem NetsI_ev (p : Int) (l : List D) (hl : l.length ≤ maxLen) : Ev (fun k => impl_NetsOf.f k p l) (netsR p l) := by
  unfold impl_NetsOf.f netsR
  refine Ev.bind (ValidI_ev p l hl) ?_
  by_cases hv : valid p l = true
  · refine ev_pos hv (Ev.bind (netsI_ev p l hv) ?_)
    rw [if_pos hv]; exact Ev.now _
  · refine ev_neg hv ?_
    rw [if_neg hv]; exact Ev.now _
end Go.Proofs.Ytofcgkcpkngocaa.PuSumNetsCircles
