/- Two grains: where they are worn, and whether they fit. -/
import Derived.Test.YtcblnnfodpglaaaMSticksx0
import Derived.Test.YtcblnnfodpglaaaMSticksx10
import Derived.Test.YtcblnnfodpglaaaMSticksx12
import Derived.Test.YtcblnnfodpglaaaMSticksx2
import Derived.Test.YtcblnnfodpglaaaMSticksx9
import Derived.Test.YtcblnnfodpglaaaVSticksEv
import Derived.Test.YtcblnnfodpglaaaPuGrainSticks
namespace Go.Proofs.Ytcblnnfodpglaaa.PuFitSticks
open Go.RowKit Go.Proofs.Ytcblnnfodpglaaa.MSticks Go.Proofs.YtcblnnfodpglaaaW.PrintWords Go.Proofs.YtcblnnfodpglaaaW.PrintLast Go.Proofs.Ytcblnnfodpglaaa.Evs Go.Proofs.Ytcblnnfodpglaaa.PuGrainSticks
set_option linter.unusedVariables false
set_option linter.unusedSimpArgs false

def sg (x y : G) (i : Nat) : Int := IntKind.i8.wrap (gv x i + gv y i)
def fit1 (x y : G) (i : Nat) : Bool := decide (-1 ≤ sg x y i) && decide (sg x y i ≤ 1)
def wornFrom (x y : G) (i : Nat) : List Int := ((List.range' i (16 - i)).filter fun q => decide (sg x y q ≠ 0)).map (fun (q : Nat) => (q : Int))
def fitG (x y : G) (w : Int) : Bool := allFrom (fit1 x y) 0 && decide (((wornFrom x y 0).length : Int) ≤ w)
theorem wornFrom_step (x y : G) (i : Nat) (h : i < 16) : wornFrom x y i = if sg x y i = 0 then wornFrom x y (i + 1) else (i : Int) :: wornFrom x y (i + 1) := by
  unfold wornFrom
  rw [show 16 - i = (16 - (i + 1)) + 1 by omega, List.range'_succ, List.filter_cons]
  by_cases e : sg x y i = 0
  · simp [e]
  · simp [e]
theorem wornFrom_end (x y : G) : wornFrom x y 16 = [] := rfl
theorem wornFrom_length (x y : G) (i : Nat) : (wornFrom x y i).length ≤ 16 - i := by
  unfold wornFrom
  rw [List.length_map]
  exact Nat.le_trans (List.length_filter_le _ _) (by simp)
theorem wornI_ev (x y : G) : Ev (fun k => impl_worn.f k x y) (wornFrom x y 0) := by
  unfold impl_worn.f
  refine ev_eq (ev_forI (n := 16) (G := fun k s i => impl_worn.l0 k s i x y) (F := fun s i => s ++ wornFrom x y i) (I := fun s i => s.length ≤ i) (fun i hi ih s hI => ?_) (fun s hI => ?_) 0 (by omega) [] (by simp)) (by simp)
  · by_cases e : sg x y i = 0
    · refine ev_eq (Ev.step (f := fun k => impl_worn.l0 k s ((i : Int) + 1) x y) (fun k => ?_) (ih s (by omega))) ?_
      · simp only [impl_worn.l0]
        rw [if_pos (by omega), if_pos (by omega), vrd_n, vrd_n, wrap_up16 hi]
        exact if_pos e
      · show s ++ wornFrom x y (i + 1) = s ++ wornFrom x y i
        rw [wornFrom_step x y i hi, if_pos e]
    · refine ev_eq (Ev.step (f := fun k => impl_worn.l0 k (s ++ [(i : Int)]) ((i : Int) + 1) x y) (fun k => ?_) (ih (s ++ [(i : Int)]) (by simp; omega))) ?_
      · simp only [impl_worn.l0]
        rw [if_pos (by omega), if_pos (by omega), vrd_n, vrd_n, wrap_up16 hi, if_neg (show ¬ IntKind.i8.wrap (gv x i + gv y i) = 0 from e), if_pos (by omega)]
      · show (s ++ [(i : Int)]) ++ wornFrom x y (i + 1) = s ++ wornFrom x y i
        rw [wornFrom_step x y i hi, if_neg e, List.append_assoc]; rfl
  · refine ev_eq (Ev.step (f := fun _ => some s) (fun k => ?_) (Ev.now _)) (by simp [wornFrom_end])
    simp only [impl_worn.l0]
    rw [if_neg (by omega)]
theorem fitI_ev (x y : G) (w : Int) : Ev (fun k => impl_fitsGrain.f k x y w) (fitG x y w) := by
  unfold impl_fitsGrain.f fitG
  refine ev_for (n := 16) (G := fun k (_ : Unit) i => impl_fitsGrain.l0 k w i x y) (F := fun _ i => allFrom (fit1 x y) i && decide (((wornFrom x y 0).length : Int) ≤ w)) (fun i hi ih s => ?_) (fun s => ?_) 0 (by omega) ()
  · rw [allFrom_step _ _ hi]
    by_cases h1 : sg x y i < -1
    · refine ev_eq (Ev.step (f := fun _ => some false) (fun k => ?_) (Ev.now _)) ?_
      · simp only [impl_fitsGrain.l0]
        rw [if_pos (by omega), if_pos (by omega), vrd_n, vrd_n]
        exact if_pos h1
      · simp [fit1, show ¬ (-1 ≤ sg x y i) by omega]
    · by_cases h2 : sg x y i > 1
      · refine ev_eq (Ev.step (f := fun _ => some false) (fun k => ?_) (Ev.now _)) ?_
        · simp only [impl_fitsGrain.l0]
          rw [if_pos (by omega), if_pos (by omega), vrd_n, vrd_n, if_neg (show ¬ IntKind.i8.wrap (gv x i + gv y i) < -1 from h1)]
          exact if_pos h2
        · simp [fit1, show ¬ (sg x y i ≤ 1) by omega]
      · refine ev_eq (Ev.step (fun k => ?_) (ih ())) ?_
        · simp only [impl_fitsGrain.l0]
          rw [if_pos (by omega), if_pos (by omega), vrd_n, vrd_n, if_neg (show ¬ IntKind.i8.wrap (gv x i + gv y i) < -1 from h1), if_neg (show ¬ IntKind.i8.wrap (gv x i + gv y i) > 1 from h2), wrap_up16 hi]
        · simp [fit1, show -1 ≤ sg x y i by omega, show sg x y i ≤ 1 by omega]
  · refine Ev.step (f := fun k => (impl_worn.f k x y).bind fun t => some (decide ((t.length : Int) ≤ w))) (fun k => ?_) (Ev.bind (wornI_ev x y) ?_)
    · simp only [impl_fitsGrain.l0]
      rw [if_neg (by omega)]
    · exact ev_eq (Ev.now _) (by simp [allFrom_end])
def fitR (x y : G) (w : Int) : Bool × Int := if okG x = true ∧ okG y = true then (if 0 ≤ w ∧ w ≤ 16 then (fitG x y w, 0) else (false, 2)) else (false, 1)
theorem in16 (w : Int) : spec_l00In.f w 0 16 = some (decide (0 ≤ w ∧ w ≤ 16)) := by
  unfold spec_l00In.f
  by_cases h0 : w ≥ 0
  · rw [if_pos h0]; simp [show 0 ≤ w from h0]
  · rw [if_neg h0]; simp [show ¬ 0 ≤ w from h0]
theorem isWear_eq (w : Int) : impl_isWear.f w = some (decide (0 ≤ w ∧ w ≤ 16)) := by
  unfold impl_isWear.f
  by_cases h0 : w ≥ 0
  · rw [if_pos h0]; simp [show 0 ≤ w from h0]
  · rw [if_neg h0]; simp [show ¬ 0 ≤ w from h0]
theorem FitsGrainI_ev (x y : G) (w : Int) : Ev (fun k => impl_FitsGrain.f k x y w) (fitR x y w) := by
  have good : okG x = true → okG y = true → Ev (fun k => impl_FitsGrain.j0 k w false x y) (fitR x y w) := by
    intro hx hy
    unfold fitR
    rw [if_pos ⟨hx, hy⟩]
    refine Ev.step (fun k => by simp only [impl_FitsGrain.j0]; rfl) (ev_neg (by simp) (ev_bind0 (isWear_eq w) ?_))
    by_cases h : 0 ≤ w ∧ w ≤ 16
    · rw [if_pos h]
      exact ev_pos (by simpa using h) (Ev.bind (fitI_ev x y w) (Ev.now _))
    · rw [if_neg h]
      exact ev_neg (by simpa using h) (Ev.now _)
  have bad : ¬ (okG x = true ∧ okG y = true) → Ev (fun k => impl_FitsGrain.j0 k w true x y) (fitR x y w) := by
    intro h
    unfold fitR
    rw [if_neg h]
    exact Ev.step (f := fun _ => some (false, 1)) (fun k => by simp only [impl_FitsGrain.j0]; rfl) (Ev.now _)
  unfold impl_FitsGrain.f
  refine Ev.bind (ValidGrainI_ev x) ?_
  by_cases hx : okG x = true
  · refine ev_pos hx (Ev.bind (ValidGrainI_ev y) ?_)
    by_cases hy : okG y = true
    · rw [show (!okG y) = false by simp [hy]]; exact good hx hy
    · rw [show (!okG y) = true by simpa using hy]; exact bad (fun z => hy z.2)
  · exact ev_neg hx (bad (fun z => hx z.1))
end Go.Proofs.Ytcblnnfodpglaaa.PuFitSticks
