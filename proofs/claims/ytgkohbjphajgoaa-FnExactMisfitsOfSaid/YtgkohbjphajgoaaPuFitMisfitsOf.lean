/- Two grains: where they are worn, and whether they fit. -/
import Derived.Test.YtgkohbjphajgoaaMMisfitsOfx0
import Derived.Test.YtgkohbjphajgoaaMMisfitsOfx3
import Derived.Test.YtgkohbjphajgoaaMMisfitsOfx8
import Derived.Test.YtgkohbjphajgoaaVMisfitsOfEv
import Derived.Test.YtgkohbjphajgoaaPuGrainMisfitsOf
namespace Go.Proofs.Ytgkohbjphajgoaa.PuFitMisfitsOf
open Go.RowKit Go.Proofs.Ytgkohbjphajgoaa.MMisfitsOf Go.Proofs.YtgkohbjphajgoaaW.PrintWords Go.Proofs.YtgkohbjphajgoaaW.PrintLast Go.Proofs.Ytgkohbjphajgoaa.Evs Go.Proofs.Ytgkohbjphajgoaa.PuGrainMisfitsOf
set_option linter.unusedVariables false
set_option linter.unusedSimpArgs false

def sg (x y : G) (i : Nat) : Int := IntKind.i8.wrap (gv x i + gv y i)
def fit1 (x y : G) (i : Nat) : Bool := decide (-1 ≤ sg x y i) && decide (sg x y i ≤ 1)
def wornFrom (x y : G) (i : Nat) : List Int := ((List.range' i (16 - i)).filter fun q => decide (sg x y q ≠ 0)).map (fun (q : Nat) => (q : Int))
def fitG (x y : G) (w : Int) : Bool := allFrom (fit1 x y) 0 && decide (((wornFrom x y 0).length : Int) ≤ w)
theorem wornFrom_step (x y : G) (i : Nat) (h : i < 16) : wornFrom x y i = if sg x y i = 0 then wornFrom x y (i + 1) else (i : Int) :: wornFrom x y (i + 1) := by
  unfold wornFrom
  rw [show 16 - i = (16 - (i + 1)) + 1 by omega, List.range'_succ, List.filter_cons]
  by_cases e : sg x y i = 0
  · simp [e]
  · simp [e]
theorem wornFrom_end (x y : G) : wornFrom x y 16 = [] := rfl
theorem wornFrom_length (x y : G) (i : Nat) : (wornFrom x y i).length ≤ 16 - i := by
  unfold wornFrom
  rw [List.length_map]
  exact Nat.le_trans (List.length_filter_le _ _) (by simp)
theorem wornI_ev (x y : G) : Ev (fun k => impl_worn.f k x y) (wornFrom x y 0) := by
  unfold impl_worn.f
  refine ev_eq (ev_forI (n := 16) (G := fun k s i => impl_worn.l0 k s i x y) (F := fun s i => s ++ wornFrom x y i) (I := fun s i => s.length ≤ i) (fun i hi ih s hI => ?_) (fun s hI => ?_) 0 (by omega) [] (by simp)) (by simp)
  · by_cases e : sg x y i = 0
    · refine ev_eq (Ev.step (f := fun k => impl_worn.l0 k s ((i : Int) + 1) x y) (fun k => ?_) (ih s (by omega))) ?_
      · simp only [impl_worn.l0]
        rw [if_pos (by omega), if_pos (by omega), vrd_n, vrd_n, wrap_up16 hi]
        exact if_pos e
      · show s ++ wornFrom x y (i + 1) = s ++ wornFrom x y i
        rw [wornFrom_step x y i hi, if_pos e]
    · refine ev_eq (Ev.step (f := fun k => impl_worn.l0 k (s ++ [(i : Int)]) ((i : Int) + 1) x y) (fun k => ?_) (ih (s ++ [(i : Int)]) (by simp; omega))) ?_
      · simp only [impl_worn.l0]
        rw [if_pos (by omega), if_pos (by omega), vrd_n, vrd_n, wrap_up16 hi, if_neg (show ¬ IntKind.i8.wrap (gv x i + gv y i) = 0 from e), if_pos (by omega)]
      · show (s ++ [(i : Int)]) ++ wornFrom x y (i + 1) = s ++ wornFrom x y i
        rw [wornFrom_step x y i hi, if_neg e, List.append_assoc]; rfl
  · refine ev_eq (Ev.step (f := fun _ => some s) (fun k => ?_) (Ev.now _)) (by simp [wornFrom_end])
    simp only [impl_worn.l0]
    rw [if_neg (by omega)]
def fitR (x y : G) (w : Int) : Bool × Int := if okG x = true ∧ okG y = true then (if 0 ≤ w ∧ w ≤ 16 then (fitG x y w, 0) else (false, 2)) else (false, 1)
theorem in16 (w : Int) : spec_l00In.f w 0 16 = some (decide (0 ≤ w ∧ w ≤ 16)) := by
  unfold spec_l00In.f
  by_cases h0 : w ≥ 0
  · rw [if_pos h0]; simp [show 0 ≤ w from h0]
  · rw [if_neg h0]; simp [show ¬ 0 ≤ w from h0]

end Go.Proofs.Ytgkohbjphajgoaa.PuFitMisfitsOf
