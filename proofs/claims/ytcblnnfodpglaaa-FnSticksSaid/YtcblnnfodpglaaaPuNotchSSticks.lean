/- Equality of lists of notches and of halves. -/
import Derived.Test.YtcblnnfodpglaaaMSticksx0
import Derived.Test.YtcblnnfodpglaaaMSticksx10
import Derived.Test.YtcblnnfodpglaaaMSticksx8
import Derived.Test.YtcblnnfodpglaaaMSticksx9
import Derived.Test.YtcblnnfodpglaaaVSticksEv
import Derived.Test.YtcblnnfodpglaaaPuGrainSticks
import Derived.Test.YtcblnnfodpglaaaPuNotchSticks
namespace Go.Proofs.Ytcblnnfodpglaaa.PuNotchSSticks
open Go.RowKit Go.Proofs.Ytcblnnfodpglaaa.MSticks Go.Proofs.YtcblnnfodpglaaaW.PrintWords Go.Proofs.YtcblnnfodpglaaaW.PrintLast Go.Proofs.Ytcblnnfodpglaaa.Evs Go.Proofs.Ytcblnnfodpglaaa.PuGrainSticks Go.Proofs.Ytcblnnfodpglaaa.PuNotchSticks
set_option linter.unusedVariables false
set_option linter.unusedSimpArgs false
noncomputable def dec (p : Prop) : Bool := @decide p (Classical.propDecidable p)
theorem dec_true {p : Prop} (h : p) : dec p = true := by unfold dec; exact @decide_eq_true p (Classical.propDecidable p) h
theorem dec_false {p : Prop} (h : ¬ p) : dec p = false := by unfold dec; exact @decide_eq_false p (Classical.propDecidable p) h
theorem dec_iff {p : Prop} : dec p = true ↔ p := by
  by_cases h : p
  · rw [dec_true h]; simp [h]
  · rw [dec_false h]; simp [h]
theorem T.eq_iff (a b : T) : a = b ↔ a.f0 = b.f0 ∧ a.f1 = b.f1 := ⟨fun h => by subst h; exact ⟨rfl, rfl⟩, fun h => T.ext h.1 h.2⟩
theorem drop_eq_iff {α : Type} (a b : List α) (i : Nat) (ha : i < a.length) (hb : i < b.length) : a.drop i = b.drop i ↔ a[i] = b[i] ∧ a.drop (i + 1) = b.drop (i + 1) := by
  rw [List.drop_eq_getElem_cons ha, List.drop_eq_getElem_cons hb, List.cons.injEq]
theorem neT {a b : T} : (!(a.f0 == b.f0) || (!(a.f1 == b.f1))) = true ↔ ¬ a = b := by
  rw [T.eq_iff]; simp; omega
theorem sameS_ev (a b : List T) (h : a.length ≤ maxLen) : Ev (fun k => spec_l01SameNotches.f k a b) (dec (a = b)) := by
  unfold spec_l01SameNotches.f
  unfold maxLen at h
  by_cases hl : a.length = b.length
  · refine ev_pos (by omega) ?_
    have key := fun (i : Nat) (hi : i ≤ a.length) => ev_for (n := a.length) (G := fun k (_ : Unit) i => spec_l01SameNotches.l0 k a b i) (F := fun _ i => dec (a.drop i = b.drop i)) (fun i hi ih _ => by
      by_cases he : a[i] = b[i]
      · refine ev_eq (Ev.step (fun k => ?_) (ih ())) ?_
        · simp only [spec_l01SameNotches.l0]
          rw [if_pos (by omega), if_pos (by omega), if_pos (by omega), rdT a i hi, rdT b i (by omega), if_neg (by rw [neT]; exact fun h => h he), wrap_up hi (by omega)]
        · congr 1
          rw [drop_eq_iff a b i hi (by omega)]
          simp [he]
      · refine ev_eq (Ev.step (f := fun _ => some false) (fun k => ?_) (Ev.now _)) ?_
        · simp only [spec_l01SameNotches.l0]
          rw [if_pos (by omega), if_pos (by omega), if_pos (by omega), rdT a i hi, rdT b i (by omega), if_pos (neT.2 he)]
        · rw [drop_eq_iff a b i hi (by omega)]
          exact (dec_false (fun h => he h.1)).symm) (fun _ => by
      refine ev_eq (Ev.step (f := fun _ => some true) (fun k => ?_) (Ev.now _)) ?_
      · simp only [spec_l01SameNotches.l0]
        rw [if_neg (by omega)]
      · exact (dec_true (by rw [List.drop_of_length_le (by omega), List.drop_of_length_le (by omega)])).symm) i hi ()
    simpa using key 0 (by omega)
  · refine ev_neg (by omega) (ev_eq (Ev.now false) (dec_false (fun h => hl (by rw [h]))).symm)
theorem sameI_ev (a b : List T) (h : a.length ≤ maxLen) : Ev (fun k => impl_Notch_78.f k a b) (dec (a = b)) := by
  unfold impl_Notch_78.f
  unfold maxLen at h
  by_cases hl : a.length = b.length
  · refine ev_pos (by omega) ?_
    have key := fun (i : Nat) (hi : i ≤ a.length) => ev_for (n := a.length) (G := fun k (_ : Unit) i => impl_Notch_78.l0 k a b (a.length : Int) i) (F := fun _ i => dec (a.drop i = b.drop i)) (fun i hi ih _ => by
      by_cases he : a[i] = b[i]
      · refine ev_eq (Ev.step (fun k => ?_) (ih ())) ?_
        · simp only [impl_Notch_78.l0]
          rw [if_pos (by omega), if_pos (by omega), if_pos (by omega), if_pos (by omega), rdT a i hi, rdT b i (by omega), if_neg (by rw [neT]; exact fun h => h he), wrap_up hi (by omega)]
        · congr 1
          rw [drop_eq_iff a b i hi (by omega)]
          simp [he]
      · refine ev_eq (Ev.step (f := fun _ => some false) (fun k => ?_) (Ev.now _)) ?_
        · simp only [impl_Notch_78.l0]
          rw [if_pos (by omega), if_pos (by omega), if_pos (by omega), if_pos (by omega), rdT a i hi, rdT b i (by omega), if_pos (neT.2 he)]
        · rw [drop_eq_iff a b i hi (by omega)]
          exact (dec_false (fun h => he h.1)).symm) (fun _ => by
      refine ev_eq (Ev.step (f := fun _ => some true) (fun k => ?_) (Ev.now _)) ?_
      · simp only [impl_Notch_78.l0]
        rw [if_neg (by omega)]
      · exact (dec_true (by rw [List.drop_of_length_le (by omega), List.drop_of_length_le (by omega)])).symm) i hi ()
    simpa using key 0 (by omega)
  · refine ev_neg (by omega) (ev_eq (Ev.now false) (dec_false (fun h => hl (by rw [h]))).symm)
noncomputable def sameH (s : Bool) (l : List T) (g : G) (s2 : Bool) (l2 : List T) (g2 : G) : Bool := s == s2 && (dec (g = g2) && dec (l = l2))
theorem samePS_ev (s : Bool) (l : List T) (g : G) (s2 : Bool) (l2 : List T) (g2 : G) (h : l.length ≤ maxLen) : Ev (fun k => spec_l01Same.f k s l g s2 l2 g2) (sameH s l g s2 l2 g2) := by
  unfold spec_l01Same.f sameH
  by_cases h1 : (s == s2) = true
  · refine ev_pos h1 ?_
    rw [h1, Bool.true_and]
    by_cases h2 : g = g2
    · refine ev_pos h2 (Ev.bind (sameS_ev l l2 h) (ev_eq (Ev.now _) ?_))
      rw [dec_true h2, Bool.true_and]
    · refine ev_neg h2 (ev_eq (Ev.now _) ?_)
      rw [dec_false h2, Bool.false_and]
  · refine ev_neg h1 (ev_eq (Ev.now _) ?_)
    rw [Bool.eq_false_iff.mpr h1, Bool.false_and]
theorem SameHalfS_ev (s : Bool) (l : List T) (g : G) (s2 : Bool) (l2 : List T) (g2 : G) (h : l.length ≤ maxLen) : Ev (fun k => spec_SameHalf.f k s l g s2 l2 g2) (sameH s l g s2 l2 g2) := by
  unfold spec_SameHalf.f
  exact Ev.bind (samePS_ev s l g s2 l2 g2 h) (Ev.now _)
theorem sameH_self (s : Bool) (l : List T) (g : G) : sameH s l g s l g = true := by
  unfold sameH
  rw [dec_true rfl, dec_true rfl]; simp
theorem sameH_iff (s : Bool) (l : List T) (g : G) (s2 : Bool) (l2 : List T) (g2 : G) : sameH s l g s2 l2 g2 = true ↔ s = s2 ∧ g = g2 ∧ l = l2 := by
  unfold sameH
  rw [Bool.and_eq_true, Bool.and_eq_true, dec_iff, dec_iff, beq_iff_eq]
end Go.Proofs.Ytcblnnfodpglaaa.PuNotchSSticks
