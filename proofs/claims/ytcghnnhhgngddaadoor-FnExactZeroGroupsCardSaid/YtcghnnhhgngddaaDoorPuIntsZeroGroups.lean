/- Lists of whole numbers: equality, and the numbers that a law writes into them. -/
import Derived.Test.YtcghnnhhgngddaaDoorMZeroGroupsx0
import Derived.Test.YtcghnnhhgngddaaDoorMZeroGroupsx5
import Derived.Test.YtcghnnhhgngddaaDoorEv
namespace Go.Proofs.YtcghnnhhgngddaaDoor.PuIntsZeroGroups
open Go.RowKit Go.Proofs.YtcghnnhhgngddaaDoor.MZeroGroups Go.Proofs.YtcghnnhhgngddaaDoorW.PrintWords Go.Proofs.YtcghnnhhgngddaaDoorW.PrintLast Go.Proofs.YtcghnnhhgngddaaDoor.Evs
set_option linter.unusedVariables false
set_option linter.unusedSimpArgs false

theorem rdi (l : List Int) (i : Nat) (h : i < l.length) : rd l (i : Int) = l[i] := getD_lt l _ i h
theorem eqI_any (a : List Int) (h : a.length ≤ maxLen) : Ev (fun k => laws_eqInt64S.f k a a) true := by
  unfold laws_eqInt64S.f
  unfold maxLen at h
  refine ev_pos rfl ?_
  exact ev_for (n := a.length) (G := fun k (_ : Unit) i => laws_eqInt64S.l0 k a a i) (F := fun _ _ => true) (fun i hi ih _ => by
      refine Ev.step (fun k => ?_) (ih ())
      simp only [laws_eqInt64S.l0]
      rw [if_pos (by omega), if_pos (by omega), if_pos (by omega), if_pos trivial, wrap_up hi (by omega)]) (fun _ => by
      refine Ev.step (f := fun _ => some true) (fun k => ?_) (Ev.now _)
      simp only [laws_eqInt64S.l0]
      rw [if_neg (by omega)]) 0 (by omega) ()
theorem eqI_refl (a : List Int) (h : a.length ≤ 1000000) : Ev (fun k => laws_eqInt64S.f k a a) true := eqI_any a (by unfold maxLen; omega)
/-- m, m + 1, .. -/
def count (m : Int) : Nat → List Int
  | 0 => []
  | n + 1 => m :: count (m + 1) n
theorem count_length (m : Int) (n : Nat) : (count m n).length = n := by
  induction n generalizing m with
  | zero => rfl
  | succ n ih => simp [count, ih]
theorem count_get (m : Int) (n i : Nat) (h : i < n) : (count m n)[i]'(by rw [count_length]; exact h) = m + i := by
  induction n generalizing m i with
  | zero => omega
  | succ n ih =>
    cases i with
    | zero => simp [count]
    | succ i => simp only [count, List.getElem_cons_succ]; rw [ih (m + 1) i (by omega)]; omega
theorem count_take (m : Int) (n i : Nat) (h : i < n) : (count m n).take (i + 1) = (count m n).take i ++ [m + i] := by
  rw [List.take_succ_eq_append_getElem (by rw [count_length]; exact h), count_get m n i h]

end Go.Proofs.YtcghnnhhgngddaaDoor.PuIntsZeroGroups
