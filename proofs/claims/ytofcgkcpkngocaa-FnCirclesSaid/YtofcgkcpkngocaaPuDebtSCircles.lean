/- Equality of lists of debts. -/
import Derived.Test.YtofcgkcpkngocaaMCirclesx0
import Derived.Test.YtofcgkcpkngocaaMCirclesx15
import Derived.Test.YtofcgkcpkngocaaVCirclesEv
import Derived.Test.YtofcgkcpkngocaaPuDebtCircles
namespace Go.Proofs.Ytofcgkcpkngocaa.PuDebtSCircles
open Go.RowKit MCircles Go.Proofs.YtofcgkcpkngocaaW.PrintWords Go.Proofs.YtofcgkcpkngocaaW.PrintLast Evs PuDebtCircles
set_option linter.unusedVariables false
set_option linter.unusedSimpArgs false
/-- what is told of two elements that are equal in all fields -/
theorem D.eq_iff (a b : D) : a = b ↔ a.f0 = b.f0 ∧ a.f1 = b.f1 ∧ a.f2 = b.f2 := ⟨fun h => by subst h; exact ⟨rfl, rfl, rfl⟩, fun h => D.ext h.1 h.2.1 h.2.2⟩
theorem drop_eq_iff {α : Type} (a b : List α) (i : Nat) (ha : i < a.length) (hb : i < b.length) : a.drop i = b.drop i ↔ a[i] = b[i] ∧ a.drop (i + 1) = b.drop (i + 1) := by
  rw [List.drop_eq_getElem_cons ha, List.drop_eq_getElem_cons hb, List.cons.injEq]

theorem l02Same_ev (a b : List D) (h : a.length ≤ maxLen) : Ev (fun k => spec_l02Same.f k a b) (dec (a = b)) := by
  unfold spec_l02Same.f
  unfold maxLen at h
  by_cases hl : a.length = b.length
  · refine ev_pos (by omega) ?_
    have key := fun (i : Nat) (hi : i ≤ a.length) => ev_for (n := a.length) (G := fun k (_ : Unit) i => spec_l02Same.l0 k a b i) (F := fun _ i => dec (a.drop i = b.drop i)) (fun i hi ih _ => by
      have hr : (!(a[i].f0 == b[i].f0) || (!(a[i].f1 == b[i].f1) || !(a[i].f2 == b[i].f2))) = true ↔ ¬ a[i] = b[i] := by
        rw [D.eq_iff]; simp; omega
      by_cases he : a[i] = b[i]
      · refine ev_eq (Ev.step (fun k => ?_) (ih ())) ?_
        · simp only [spec_l02Same.l0]
          rw [if_pos (by omega), if_pos (by omega), if_pos (by omega), rdD a i hi, rdD b i (by omega), if_neg (by rw [hr]; exact fun h => h he), wrap_up hi (by omega)]
        · congr 1
          rw [drop_eq_iff a b i hi (by omega)]
          simp [he]
      · refine ev_eq (Ev.step (f := fun _ => some false) (fun k => ?_) (Ev.now _)) ?_
        · simp only [spec_l02Same.l0]
          rw [if_pos (by omega), if_pos (by omega), if_pos (by omega), rdD a i hi, rdD b i (by omega), if_pos (hr.2 he)]
        · rw [drop_eq_iff a b i hi (by omega)]
          exact (dec_false (fun h => he h.1)).symm) (fun _ => by
      refine ev_eq (Ev.step (f := fun _ => some true) (fun k => ?_) (Ev.now _)) ?_
      · simp only [spec_l02Same.l0]
        rw [if_neg (by omega)]
      · exact (dec_true (by rw [List.drop_of_length_le (by omega), List.drop_of_length_le (by omega)])).symm) i hi ()
    simpa using key 0 (by omega)
  · refine ev_neg (by omega) (ev_eq (Ev.now false) (dec_false (fun h => hl (by rw [h]))).symm)

theorem SameS_ev (a b : List D) (h : a.length ≤ maxLen) : Ev (fun k => spec_SameDebts.f k a b) (dec (a = b)) := by
  unfold spec_SameDebts.f
  exact Ev.bind (l02Same_ev a b h) (Ev.now _)


end Go.Proofs.Ytofcgkcpkngocaa.PuDebtSCircles
