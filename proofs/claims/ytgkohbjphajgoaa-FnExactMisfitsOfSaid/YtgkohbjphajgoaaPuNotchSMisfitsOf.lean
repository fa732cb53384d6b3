/- Equality of lists of notches and of halves. -/
import Derived.Test.YtgkohbjphajgoaaMMisfitsOfx0
import Derived.Test.YtgkohbjphajgoaaVMisfitsOfEv
import Derived.Test.YtgkohbjphajgoaaPuGrainMisfitsOf
import Derived.Test.YtgkohbjphajgoaaPuNotchMisfitsOf
namespace Go.Proofs.Ytgkohbjphajgoaa.PuNotchSMisfitsOf
open Go.RowKit Go.Proofs.Ytgkohbjphajgoaa.MMisfitsOf Go.Proofs.YtgkohbjphajgoaaW.PrintWords Go.Proofs.YtgkohbjphajgoaaW.PrintLast Go.Proofs.Ytgkohbjphajgoaa.Evs Go.Proofs.Ytgkohbjphajgoaa.PuGrainMisfitsOf Go.Proofs.Ytgkohbjphajgoaa.PuNotchMisfitsOf
set_option linter.unusedVariables false
set_option linter.unusedSimpArgs false
noncomputable def dec (p : Prop) : Bool := @decide p (Classical.propDecidable p)
theorem dec_true {p : Prop} (h : p) : dec p = true := by unfold dec; exact @decide_eq_true p (Classical.propDecidable p) h
theorem dec_false {p : Prop} (h : ¬ p) : dec p = false := by unfold dec; exact @decide_eq_false p (Classical.propDecidable p) h
theorem dec_iff {p : Prop} : dec p = true ↔ p := by
  by_cases h : p
  · rw [dec_true h]; simp [h]
  · rw [dec_false h]; simp [h]
theorem T.eq_iff (a b : T) : a = b ↔ a.f0 = b.f0 ∧ a.f1 = b.f1 := ⟨fun h => by subst h; exact ⟨rfl, rfl⟩, fun h => T.ext h.1 h.2⟩
theorem drop_eq_iff {α : Type} (a b : List α) (i : Nat) (ha : i < a.length) (hb : i < b.length) : a.drop i = b.drop i ↔ a[i] = b[i] ∧ a.drop (i + 1) = b.drop (i + 1) := by
  rw [List.drop_eq_getElem_cons ha, List.drop_eq_getElem_cons hb, List.cons.injEq]
theorem neT {a b : T} : (!(a.f0 == b.f0) || (!(a.f1 == b.f1))) = true ↔ ¬ a = b := by
  rw [T.eq_iff]; simp; omega
noncomputable def sameH (s : Bool) (l : List T) (g : G) (s2 : Bool) (l2 : List T) (g2 : G) : Bool := s == s2 && (dec (g = g2) && dec (l = l2))
theorem sameH_self (s : Bool) (l : List T) (g : G) : sameH s l g s l g = true := by
  unfold sameH
  rw [dec_true rfl, dec_true rfl]; simp
theorem sameH_iff (s : Bool) (l : List T) (g : G) (s2 : Bool) (l2 : List T) (g2 : G) : sameH s l g s2 l2 g2 = true ↔ s = s2 ∧ g = g2 ∧ l = l2 := by
  unfold sameH
  rw [Bool.and_eq_true, Bool.and_eq_true, dec_iff, dec_iff, beq_iff_eq]
end Go.Proofs.Ytgkohbjphajgoaa.PuNotchSMisfitsOf
