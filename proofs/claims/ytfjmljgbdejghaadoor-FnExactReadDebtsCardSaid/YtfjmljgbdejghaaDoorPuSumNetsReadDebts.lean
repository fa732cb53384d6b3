/- Sums and nets of debts. -/
import Derived.Test.YtfjmljgbdejghaaDoorMReadDebtsx0
import Derived.Test.YtfjmljgbdejghaaDoorVReadDebtsEv
import Derived.Test.YtfjmljgbdejghaaDoorPuDebtReadDebts
namespace Go.Proofs.YtfjmljgbdejghaaDoor.PuSumNetsReadDebts
open Go.RowKit Go.Proofs.YtfjmljgbdejghaaDoor.MReadDebts Go.Proofs.YtfjmljgbdejghaaDoorW.PrintWords Go.Proofs.YtfjmljgbdejghaaDoorW.PrintLast Go.Proofs.YtfjmljgbdejghaaDoor.Evs Go.Proofs.YtfjmljgbdejghaaDoor.PuDebtReadDebts
set_option linter.unusedVariables false
set_option linter.unusedSimpArgs false

def sumD (l : List D) : Int := (l.map (·.f2)).sum
theorem sumD_drop (l : List D) (i : Nat) (h : i < l.length) : sumD (l.drop i) = l[i].f2 + sumD (l.drop (i + 1)) := by
  rw [List.drop_eq_getElem_cons h]; rfl
theorem valid_bd {p : Int} {l : List D} (h : valid p l = true) : 1 ≤ p ∧ p ≤ 16 ∧ l.length ≤ 60 ∧ ∀ d ∈ l, 0 ≤ d.f0 ∧ d.f0 < p ∧ 0 ≤ d.f1 ∧ d.f1 < p ∧ d.f0 ≠ d.f1 ∧ 1 ≤ d.f2 ∧ d.f2 ≤ 100000000 := by
  simp only [valid, Bool.and_eq_true, decide_eq_true_eq, List.all_eq_true] at h
  exact ⟨h.1.1, h.1.2.1, h.1.2.2, fun d hd => of_decide_eq_true (h.2 d hd)⟩
def sumR (p : Int) (l : List D) : Int × Int := if valid p l = true then (sumD l, 0) else (0, 1)
/-- one debt's part in the nets, as the machine reckons -/
def netW (x : List Int) (d : D) : List Int :=
  (x.set d.f0.toNat (wrap64 (rd x d.f0 - d.f2))).set d.f1.toNat (wrap64 (rd (x.set d.f0.toNat (wrap64 (rd x d.f0 - d.f2))) d.f1 + d.f2))
def netsW (p : Int) (l : List D) : List Int := l.foldl netW (List.replicate p.toNat 0)
theorem netW_length (x : List Int) (d : D) : (netW x d).length = x.length := by simp [netW]
theorem fold_drop (l : List D) (x : List Int) (i : Nat) (h : i < l.length) : (l.drop i).foldl netW x = (l.drop (i + 1)).foldl netW (netW x l[i]) := by
  rw [List.drop_eq_getElem_cons h]; rfl
def netsR (p : Int) (l : List D) : List Int × Int := if valid p l = true then (netsW p l, 0) else ([], 1)
theorem netsW_length (p : Int) (l : List D) : (netsW p l).length = p.toNat := by
  unfold netsW
  have : ∀ (l : List D) (x : List Int), (l.foldl netW x).length = x.length := by
    intro l
    induction l with
    | nil => intro x; rfl
    | cons d l ih => intro x; rw [List.foldl_cons, ih, netW_length]
  rw [this, List.length_replicate]
theorem netsR_length (p : Int) (l : List D) : (netsR p l).1.length ≤ 16 := by
  unfold netsR
  split
  · next h => obtain ⟨hp, hp2, _⟩ := valid_bd h; show (netsW p l).length ≤ 16; rw [netsW_length]; omega
  · simp

end Go.Proofs.YtfjmljgbdejghaaDoor.PuSumNetsReadDebts
