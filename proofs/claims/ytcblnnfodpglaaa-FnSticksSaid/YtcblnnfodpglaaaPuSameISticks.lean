/- Equality of lists of whole numbers, as both sides ask it. -/
import Derived.Test.YtcblnnfodpglaaaMSticksx0
import Derived.Test.YtcblnnfodpglaaaMSticksx12
import Derived.Test.YtcblnnfodpglaaaVSticksEv
import Derived.Test.YtcblnnfodpglaaaPuDebtSticks
namespace Go.Proofs.Ytcblnnfodpglaaa.PuSameISticks
open Go.RowKit Go.Proofs.Ytcblnnfodpglaaa.MSticks Go.Proofs.YtcblnnfodpglaaaW.PrintWords Go.Proofs.YtcblnnfodpglaaaW.PrintLast Go.Proofs.Ytcblnnfodpglaaa.Evs Go.Proofs.Ytcblnnfodpglaaa.PuDebtSticks
set_option linter.unusedVariables false
set_option linter.unusedSimpArgs false

theorem drop_eq_iff (a b : List Int) (i : Nat) (ha : i < a.length) (hb : i < b.length) : a.drop i = b.drop i ↔ a[i] = b[i] ∧ a.drop (i + 1) = b.drop (i + 1) := by
  rw [List.drop_eq_getElem_cons ha, List.drop_eq_getElem_cons hb, List.cons.injEq]
theorem l00Same_ev (a b : List Int) (h : a.length ≤ maxLen) : Ev (fun k => spec_l00Same.f k a b) (dec (a = b)) := by
  unfold spec_l00Same.f
  unfold maxLen at h
  by_cases hl : a.length = b.length
  · refine ev_pos (by omega) ?_
    have key := fun (i : Nat) (hi : i ≤ a.length) => ev_for (n := a.length) (G := fun k (_ : Unit) i => spec_l00Same.l0 k a b i) (F := fun _ i => dec (a.drop i = b.drop i)) (fun i hi ih _ => by
      by_cases he : a[i] = b[i]
      · refine ev_eq (Ev.step (fun k => ?_) (ih ())) ?_
        · simp only [spec_l00Same.l0]
          rw [if_pos (by omega), if_pos (by omega), if_pos (by omega), show rd a (i : Int) = a[i] from getD_lt a _ i hi, show rd b (i : Int) = b[i]'(by omega) from getD_lt b _ i (by omega), if_pos he, wrap_up hi (by omega)]
        · congr 1
          rw [drop_eq_iff a b i hi (by omega)]
          simp [he]
      · refine ev_eq (Ev.step (f := fun _ => some false) (fun k => ?_) (Ev.now _)) ?_
        · simp only [spec_l00Same.l0]
          rw [if_pos (by omega), if_pos (by omega), if_pos (by omega), show rd a (i : Int) = a[i] from getD_lt a _ i hi, show rd b (i : Int) = b[i]'(by omega) from getD_lt b _ i (by omega), if_neg he]
        · rw [drop_eq_iff a b i hi (by omega)]
          exact (dec_false (fun h => he h.1)).symm) (fun _ => by
      refine ev_eq (Ev.step (f := fun _ => some true) (fun k => ?_) (Ev.now _)) ?_
      · simp only [spec_l00Same.l0]
        rw [if_neg (by omega)]
      · exact (dec_true (by rw [List.drop_of_length_le (by omega), List.drop_of_length_le (by omega)])).symm) i hi ()
    simpa using key 0 (by omega)
  · refine ev_neg (by omega) (ev_eq (Ev.now false) (dec_false (fun h => hl (by rw [h]))).symm)

end Go.Proofs.Ytcblnnfodpglaaa.PuSameISticks
