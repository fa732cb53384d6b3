/- Sums and nets of debts. -/
import Derived.Test.YtofcgkcpkngocaaMPaidx0
import Derived.Test.YtofcgkcpkngocaaMPaidx15
import Derived.Test.YtofcgkcpkngocaaMPaidx16
import Derived.Test.YtofcgkcpkngocaaVPaidEv
import Derived.Test.YtofcgkcpkngocaaPuDebtPaid
namespace Go.Proofs.Ytofcgkcpkngocaa.PuSumNetsPaid
open Go.RowKit Go.Proofs.Ytofcgkcpkngocaa.MPaid Go.Proofs.YtofcgkcpkngocaaW.PrintWords Go.Proofs.YtofcgkcpkngocaaW.PrintLast Go.Proofs.Ytofcgkcpkngocaa.Evs Go.Proofs.Ytofcgkcpkngocaa.PuDebtPaid
set_option linter.unusedVariables false
set_option linter.unusedSimpArgs false

def sumD (l : List D) : Int := (l.map (·.f2)).sum
theorem sumD_drop (l : List D) (i : Nat) (h : i < l.length) : sumD (l.drop i) = l[i].f2 + sumD (l.drop (i + 1)) := by
  rw [List.drop_eq_getElem_cons h]; rfl
theorem valid_bd {p : Int} {l : List D} (h : valid p l = true) : 1 ≤ p ∧ p ≤ 16 ∧ l.length ≤ 60 ∧ ∀ d ∈ l, 0 ≤ d.f0 ∧ d.f0 < p ∧ 0 ≤ d.f1 ∧ d.f1 < p ∧ d.f0 ≠ d.f1 ∧ 1 ≤ d.f2 ∧ d.f2 ≤ 100000000 := by
  simp only [valid, Bool.and_eq_true, decide_eq_true_eq, List.all_eq_true] at h
  exact ⟨h.1.1, h.1.2.1, h.1.2.2, fun d hd => of_decide_eq_true (h.2 d hd)⟩
def sumR (p : Int) (l : List D) : Int × Int := if valid p l = true then (sumD l, 0) else (0, 1)
/-- one debt's part in the nets, as the machine reckons -/
def netW (x : List Int) (d : D) : List Int :=
  (x.set d.f0.toNat (wrap64 (rd x d.f0 - d.f2))).set d.f1.toNat (wrap64 (rd (x.set d.f0.toNat (wrap64 (rd x d.f0 - d.f2))) d.f1 + d.f2))
def netsW (p : Int) (l : List D) : List Int := l.foldl netW (List.replicate p.toNat 0)
theorem netW_length (x : List Int) (d : D) : (netW x d).length = x.length := by simp [netW]
theorem fold_drop (l : List D) (x : List Int) (i : Nat) (h : i < l.length) : (l.drop i).foldl netW x = (l.drop (i + 1)).foldl netW (netW x l[i]) := by
  rw [List.drop_eq_getElem_cons h]; rfl
theorem netsS_ev (p : Int) (l : List D) (hv : valid p l = true) : Ev (fun k => spec_l02Nets.f k p l) (netsW p l) := by
  obtain ⟨hp, hp2, h60, hd⟩ := valid_bd hv
  unfold spec_l02Nets.f netsW
  refine ev_pos (by omega) (ev_pos (by omega) ?_)
  exact ev_forI (n := l.length) (G := fun k s i => spec_l02Nets.l0 k l s i) (F := fun s i => (l.drop i).foldl netW s) (I := fun s _ => (s.length : Int) = p)
      (fun i hi ih s hI => by
        have hb := hd l[i] (List.getElem_mem hi)
        refine ev_eq (Ev.step (f := fun k => spec_l02Nets.l0 k l (netW s l[i]) ((i : Int) + 1)) (fun k => ?_) (ih (netW s l[i]) (by rw [netW_length]; exact hI))) ?_
        · simp only [spec_l02Nets.l0, Option.bind_some]
          rw [if_pos (by omega), if_pos (by omega), rdD l i hi, if_pos (by omega), if_pos (by omega), if_pos (by omega), if_pos (by omega), wrap_up hi (by omega)]
          rfl
        · rw [fold_drop l s i hi])
      (fun s hI => by
        refine ev_eq (Ev.step (f := fun _ => some s) (fun k => ?_) (Ev.now _)) ?_
        · simp only [spec_l02Nets.l0]; rw [if_neg (by omega)]
        · simp) 0 (by omega) _ (by rw [List.length_replicate]; omega)
theorem netsI_ev (p : Int) (l : List D) (hv : valid p l = true) : Ev (fun k => impl_nets.f k p l) (netsW p l) := by
  obtain ⟨hp, hp2, h60, hd⟩ := valid_bd hv
  unfold impl_nets.f netsW
  refine ev_pos (by omega) (ev_pos (by omega) ?_)
  exact ev_forI (n := l.length) (G := fun k s i => impl_nets.l0 k s l (l.length : Int) i) (F := fun s i => (l.drop i).foldl netW s) (I := fun s _ => (s.length : Int) = p)
      (fun i hi ih s hI => by
        have hb := hd l[i] (List.getElem_mem hi)
        refine ev_eq (Ev.step (f := fun k => impl_nets.l0 k (netW s l[i]) l (l.length : Int) ((i : Int) + 1)) (fun k => ?_) (ih (netW s l[i]) (by rw [netW_length]; exact hI))) ?_
        · simp only [impl_nets.l0, Option.bind_some]
          rw [if_pos (by omega), if_pos (by omega), if_pos (by omega), rdD l i hi, if_pos (by omega), if_pos (by omega), if_pos (by omega), if_pos (by omega), wrap_up hi (by omega)]
          rfl
        · rw [fold_drop l s i hi])
      (fun s hI => by
        refine ev_eq (Ev.step (f := fun _ => some s) (fun k => ?_) (Ev.now _)) ?_
        · simp only [impl_nets.l0]; rw [if_neg (by omega)]
        · simp) 0 (by omega) _ (by rw [List.length_replicate]; omega)
def netsR (p : Int) (l : List D) : List Int × Int := if valid p l = true then (netsW p l, 0) else ([], 1)
theorem netsW_length (p : Int) (l : List D) : (netsW p l).length = p.toNat := by
  unfold netsW
  have : ∀ (l : List D) (x : List Int), (l.foldl netW x).length = x.length := by
    intro l
    induction l with
    | nil => intro x; rfl
    | cons d l ih => intro x; rw [List.foldl_cons, ih, netW_length]
  rw [this, List.length_replicate]
theorem netsR_length (p : Int) (l : List D) : (netsR p l).1.length ≤ 16 := by
  unfold netsR
  split
  · next h => obtain ⟨hp, hp2, _⟩ := valid_bd h; show (netsW p l).length ≤ 16; rw [netsW_length]; omega
  · simp
theorem NetsS_ev (p : Int) (l : List D) (hl : l.length ≤ maxLen) : Ev (fun k => spec_NetsOf.f k p l) (netsR p l) := by
  unfold spec_NetsOf.f netsR
  refine Ev.bind (l02Ok_ev p l hl) ?_
  by_cases hv : valid p l = true
  · refine ev_pos hv (Ev.bind (netsS_ev p l hv) ?_)
    rw [if_pos hv]; exact Ev.now _
  · refine ev_neg hv ?_
    rw [if_neg hv]; exact Ev.now _
theorem NetsI_ev (p : Int) (l : List D) (hl : l.length ≤ maxLen) : Ev (fun k => impl_NetsOf.f k p l) (netsR p l) := by
  unfold impl_NetsOf.f netsR
  refine Ev.bind (ValidI_ev p l hl) ?_
  by_cases hv : valid p l = true
  · refine ev_pos hv (Ev.bind (netsI_ev p l hv) ?_)
    rw [if_pos hv]; exact Ev.now _
  · refine ev_neg hv ?_
    rw [if_neg hv]; exact Ev.now _
end Go.Proofs.Ytofcgkcpkngocaa.PuSumNetsPaid
