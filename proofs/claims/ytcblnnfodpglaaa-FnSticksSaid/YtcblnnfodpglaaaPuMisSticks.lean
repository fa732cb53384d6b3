/- In what a stock and a foil differ. -/
import Derived.Test.YtcblnnfodpglaaaMSticksx0
import Derived.Test.YtcblnnfodpglaaaMSticksx11
import Derived.Test.YtcblnnfodpglaaaVSticksEv
import Derived.Test.YtcblnnfodpglaaaPuGrainSticks
import Derived.Test.YtcblnnfodpglaaaPuFitSticks
import Derived.Test.YtcblnnfodpglaaaPuNotchSticks
import Derived.Test.YtcblnnfodpglaaaPuNotchSSticks
import Derived.Test.YtcblnnfodpglaaaPuPairSticks
namespace Go.Proofs.Ytcblnnfodpglaaa.PuMisSticks
open Go.RowKit Go.Proofs.Ytcblnnfodpglaaa.MSticks Go.Proofs.YtcblnnfodpglaaaW.PrintWords Go.Proofs.YtcblnnfodpglaaaW.PrintLast Go.Proofs.YtcblnnfodpglaaaW.PrintMore Go.Proofs.Ytcblnnfodpglaaa.Evs Go.Proofs.Ytcblnnfodpglaaa.PuGrainSticks Go.Proofs.Ytcblnnfodpglaaa.PuFitSticks Go.Proofs.Ytcblnnfodpglaaa.PuNotchSticks Go.Proofs.Ytcblnnfodpglaaa.PuNotchSSticks Go.Proofs.Ytcblnnfodpglaaa.PuPairSticks
set_option linter.unusedVariables false
set_option linter.unusedSimpArgs false
def most (a b : List T) : Nat := if a.length < b.length then b.length else a.length
theorem mx_most (a b : List T) : mx (a.length : Int) (b.length : Int) = (most a b : Int) := by
  unfold mx most
  by_cases h : a.length < b.length
  · rw [if_pos h, if_pos (by omega)]
  · rw [if_neg h, if_neg (by omega)]
theorem most_iff (a b : List T) (i : Nat) : i < most a b ↔ i < a.length ∨ i < b.length := by
  unfold most
  by_cases h : a.length < b.length
  · rw [if_pos h]; omega
  · rw [if_neg h]; omega
noncomputable def misFrom (a b : List T) (i : Nat) : List Int := ((List.range' i (most a b - i)).filter fun q => dec (a[q]? ≠ b[q]?)).map (fun (q : Nat) => (q : Int))
theorem misFrom_step (a b : List T) (i : Nat) (h : i < most a b) : misFrom a b i = if dec (a[i]? ≠ b[i]?) = true then (i : Int) :: misFrom a b (i + 1) else misFrom a b (i + 1) := by
  unfold misFrom
  rw [show most a b - i = (most a b - (i + 1)) + 1 by omega, List.range'_succ, List.filter_cons]
  cases e : dec (a[i]? ≠ b[i]?)
  · simp
  · simp
theorem misFrom_end (a b : List T) (i : Nat) (h : most a b ≤ i) : misFrom a b i = [] := by
  unfold misFrom
  rw [show most a b - i = 0 by omega]; rfl
theorem misFrom_length (a b : List T) (i : Nat) : (misFrom a b i).length ≤ most a b - i := by
  unfold misFrom
  rw [List.length_map]
  exact Nat.le_trans (List.length_filter_le _ _) (by simp)
theorem misfitsI_ev (s s2 : Bool) (a b : List T) (g g2 : G) (ha : a.length ≤ 1048576) (hb : b.length ≤ 1048576) : Ev (fun k => impl_misfits.f k s a g s2 b g2) (misFrom a b 0) := by
  unfold impl_misfits.f
  rw [mx_most]
  have hm : most a b ≤ 1048576 := by unfold most; split <;> omega
  refine ev_eq (ev_forI (n := most a b) (G := fun k x i => impl_misfits.l0 k x a b (most a b : Int) i) (F := fun x i => x ++ misFrom a b i) (I := fun x i => x.length ≤ i) (fun i hi ih x hI => ?_) (fun x hI => ?_) 0 (by omega) [] (by simp)) (by simp)
  · have yes : dec (a[i]? ≠ b[i]?) = true → Ev (fun k => impl_misfits.l0 k (x ++ [(i : Int)]) a b (most a b : Int) ((i : Int) + 1)) (x ++ misFrom a b i) := by
      intro e
      refine ev_eq (ih (x ++ [(i : Int)]) (by simp; omega)) ?_
      rw [misFrom_step a b i hi, if_pos e, List.append_assoc]; rfl
    have no : ¬ dec (a[i]? ≠ b[i]?) = true → Ev (fun k => impl_misfits.l0 k x a b (most a b : Int) ((i : Int) + 1)) (x ++ misFrom a b i) := by
      intro e
      refine ev_eq (ih x (by omega)) ?_
      rw [misFrom_step a b i hi, if_neg e]
    by_cases h1 : a.length ≤ i
    · refine Ev.step (fun k => ?_) (yes (dec_true (by rw [List.getElem?_eq_none h1, List.getElem?_eq_getElem (by have := (most_iff a b i).1 hi; omega)]; simp)))
      simp only [impl_misfits.l0]
      rw [if_pos (by omega), if_pos (by omega), if_pos (by omega), wrap_up hi (by omega)]
    · by_cases h2 : b.length ≤ i
      · refine Ev.step (fun k => ?_) (yes (dec_true (by rw [List.getElem?_eq_none h2, List.getElem?_eq_getElem (by omega)]; simp)))
        simp only [impl_misfits.l0]
        rw [if_pos (by omega), if_neg (by omega), if_pos (by omega), if_pos (by omega), wrap_up hi (by omega)]
      · by_cases h3 : a[i] = b[i]
        · refine Ev.step (fun k => ?_) (no (by rw [dec_false (by rw [List.getElem?_eq_getElem (by omega), List.getElem?_eq_getElem (by omega), h3]; simp)]; simp))
          simp only [impl_misfits.l0]
          rw [if_pos (by omega), if_neg (by omega), if_neg (by omega), if_pos (by omega), if_pos (by omega), if_pos (by omega), rdT a i (by omega), rdT b i (by omega), if_neg (by rw [neT]; exact fun z => z h3), wrap_up hi (by omega)]
        · refine Ev.step (fun k => ?_) (yes (dec_true (by rw [List.getElem?_eq_getElem (by omega), List.getElem?_eq_getElem (by omega)]; simpa using h3)))
          simp only [impl_misfits.l0]
          rw [if_pos (by omega), if_neg (by omega), if_neg (by omega), if_pos (by omega), if_pos (by omega), if_pos (by omega), rdT a i (by omega), rdT b i (by omega), if_pos (neT.2 h3), if_pos (by omega), wrap_up hi (by omega)]
  · refine ev_eq (Ev.step (f := fun _ => some x) (fun k => ?_) (Ev.now _)) (by rw [misFrom_end a b _ (Nat.le_refl _), List.append_nil])
    simp only [impl_misfits.l0]
    rw [if_neg (by omega)]
noncomputable def misR (s : Bool) (a : List T) (g : G) (s2 : Bool) (b : List T) (g2 : G) : List Int × List Int × Int :=
  if pairC s a g s2 b g2 0 = 0 then (misFrom a b 0, wornFrom g g2 0, 0) else ([], [], pairC s a g s2 b g2 0)
theorem MisI_ev (s : Bool) (a : List T) (g : G) (s2 : Bool) (b : List T) (g2 : G) (ha : a.length ≤ 1048576) (hb : b.length ≤ 1048576) (hw : ∀ n ∈ a, wfT n) (hw2 : ∀ n ∈ b, wfT n) :
    Ev (fun k => impl_MisfitsOf.f k s a g s2 b g2) (misR s a g s2 b g2) := by
  unfold impl_MisfitsOf.f
  have bad : ¬ (validH a g = true ∧ validH b g2 = true) → Ev (fun k => impl_MisfitsOf.j0 k true s a g s2 b g2) (misR s a g s2 b g2) := by
    intro h
    have e : pairC s a g s2 b g2 0 = 1 := if_neg h
    unfold misR
    rw [e]
    exact ev_ifn (by decide) (Ev.step (f := fun _ => some ([], [], 1)) (fun k => by simp only [impl_MisfitsOf.j0]; rfl) (Ev.now _))
  refine Ev.bind (ValidHalfI_ev s a g (by unfold maxLen; omega) hw) ?_
  by_cases h : validH a g = true
  · refine ev_pos h (Ev.bind (ValidHalfI_ev s2 b g2 (by unfold maxLen; omega) hw2) ?_)
    by_cases h2 : validH b g2 = true
    · have e : pairC s a g s2 b g2 0 = if s = true ∧ s2 = false then 0 else 4 := (if_pos ⟨h, h2⟩).trans (if_pos (by omega))
      unfold misR
      rw [e, h2]
      refine Ev.step (fun k => by simp only [impl_MisfitsOf.j0]; rfl) (ev_neg (by simp) ?_)
      cases s with
      | false => exact ev_neg (by simp) (Ev.step (f := fun _ => some ([], [], 4)) (fun k => by simp only [impl_MisfitsOf.j1]; rfl) (Ev.now _))
      | true =>
        refine ev_pos rfl ?_
        cases s2 with
        | true => exact Ev.step (f := fun _ => some ([], [], 4)) (fun k => by simp only [impl_MisfitsOf.j1]; rfl) (Ev.now _)
        | false =>
          rw [if_pos (show true = true ∧ false = false from ⟨rfl, rfl⟩)]
          refine ev_ifp rfl (Ev.step (fun k => by simp only [impl_MisfitsOf.j1]; rfl) (ev_neg (by simp) ?_))
          exact Ev.bind (misfitsI_ev true false a b g g2 ha hb) (Ev.bind (wornI_ev g g2) (Ev.now _))
    · rw [Bool.eq_false_iff.mpr h2]
      exact bad (fun z => h2 z.2)
  · exact ev_neg h (bad (fun z => h z.1))
theorem misR_len (s : Bool) (a : List T) (g : G) (s2 : Bool) (b : List T) (g2 : G) : (misR s a g s2 b g2).1.length ≤ most a b ∧ (misR s a g s2 b g2).2.1.length ≤ 16 := by
  unfold misR
  have := misFrom_length a b 0
  have := wornFrom_length g g2 0
  split
  · exact ⟨by omega, by omega⟩
  · simp
end Go.Proofs.Ytcblnnfodpglaaa.PuMisSticks
