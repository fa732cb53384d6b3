/- Nets that are as they have to be, as both sides ask it. -/
import Derived.Test.YtcghnnhhgngddaaDoorMZeroGroupsx0
import Derived.Test.YtcghnnhhgngddaaDoorMZeroGroupsx1
import Derived.Test.YtcghnnhhgngddaaDoorMZeroGroupsx3
import Derived.Test.YtcghnnhhgngddaaDoorEv
namespace Go.Proofs.YtcghnnhhgngddaaDoor.PuZeroZeroGroups
open Go.RowKit Go.Proofs.YtcghnnhhgngddaaDoor.MZeroGroups Go.Proofs.YtcghnnhhgngddaaDoorW.PrintWords Go.Proofs.YtcghnnhhgngddaaDoorW.PrintLast Go.Proofs.YtcghnnhhgngddaaDoor.Evs
set_option linter.unusedVariables false
set_option linter.unusedSimpArgs false

def inA (z : Int) : Bool := decide (-100000000 ≤ z ∧ z ≤ 100000000)
def nets0 (x : List Int) : Bool := decide (1 ≤ x.length ∧ x.length ≤ 16) && (x.all inA && x.sum == 0)
theorem all_drop (x : List Int) (i : Nat) (h : i < x.length) : (x.drop i).all inA = (inA x[i] && (x.drop (i + 1)).all inA) := by
  rw [List.drop_eq_getElem_cons h]; rfl
theorem sum_drop (x : List Int) (i : Nat) (h : i < x.length) : (x.drop i).sum = x[i] + (x.drop (i + 1)).sum := by
  rw [List.drop_eq_getElem_cons h]; rfl
theorem in_s (a b c : Int) : spec_l00In.f a b c = some (decide (b ≤ a ∧ a ≤ c)) := by
  unfold spec_l00In.f
  by_cases h : a ≥ b
  · rw [if_pos h]; congr 1; simp [show b ≤ a from h]
  · rw [if_neg h]; congr 1; simp [show ¬ b ≤ a from h]
theorem ZeroS_ev (x : List Int) (hl : x.length ≤ maxLen) : Ev (fun k => spec_l02Zero.f k x) (nets0 x) := by
  unfold spec_l02Zero.f nets0
  unfold maxLen at hl
  rw [in_s]
  by_cases h : 1 ≤ x.length ∧ x.length ≤ 16
  · refine ev_bind0 rfl (ev_pos (by simpa using by omega) ?_)
    refine ev_eq (ev_forI (n := x.length) (G := fun k s i => spec_l02Zero.l0 k x s i) (F := fun s i => (x.drop i).all inA && (s + (x.drop i).sum == 0)) (I := fun s i => -((i : Int) * 100000000) ≤ s ∧ s ≤ (i : Int) * 100000000)
      (fun i hi ih s hI => by
        by_cases hk : inA x[i] = true
        · have hb := of_decide_eq_true hk
          refine ev_eq (Ev.step (f := fun k => spec_l02Zero.l0 k x (s + x[i]) ((i : Int) + 1)) (fun k => ?_) (ih (s + x[i]) ⟨by omega, by omega⟩)) ?_
          · simp only [spec_l02Zero.l0]
            rw [if_pos (by omega), if_pos (by omega), show rd x (i : Int) = x[i] from getD_lt x _ i hi, in_s, wrap_up hi (by omega), wrap_id (by omega) (by omega)]
            simp only [Option.bind_some]
            rw [if_pos (by simpa using hb)]
          · rw [all_drop x i hi, sum_drop x i hi, hk, Int.add_assoc]; rfl
        · have hb := of_decide_eq_false (Bool.eq_false_iff.mpr hk)
          refine ev_eq (Ev.step (f := fun _ => some false) (fun k => ?_) (Ev.now _)) ?_
          · simp only [spec_l02Zero.l0]
            rw [if_pos (by omega), if_pos (by omega), show rd x (i : Int) = x[i] from getD_lt x _ i hi, in_s]
            simp only [Option.bind_some]
            rw [if_neg (by simpa using hb)]
          · rw [all_drop x i hi, Bool.eq_false_iff.mpr hk]; rfl)
      (fun s hI => by
        refine ev_eq (Ev.step (f := fun _ => some (s == 0)) (fun k => ?_) (Ev.now _)) ?_
        · simp only [spec_l02Zero.l0]; rw [if_neg (by omega)]
        · simp) 0 (by omega) 0 (by simp)) ?_
    simp [h]
  · refine ev_bind0 rfl (ev_neg (by simpa using by omega) (ev_eq (Ev.now _) ?_))
    rw [decide_eq_false h]; rfl
theorem ZeroI_ev (x : List Int) (hl : x.length ≤ maxLen) : Ev (fun k => impl_areNets.f k x) (nets0 x) := by
  unfold impl_areNets.f nets0
  unfold maxLen at hl
  have hj : ∀ k, impl_areNets.j0 (k + 1) x true = some false := fun k => by simp only [impl_areNets.j0]; rfl
  by_cases h1 : (x.length : Int) < 1
  · refine ev_pos h1 (ev_eq (Ev.step (f := fun _ => some false) hj (Ev.now _)) ?_)
    rw [decide_eq_false (show ¬ (1 ≤ x.length ∧ x.length ≤ 16) by omega)]; rfl
  · refine ev_neg h1 ?_
    by_cases h2 : (x.length : Int) > 16
    · rw [decide_eq_true h2]
      refine ev_eq (Ev.step (f := fun _ => some false) hj (Ev.now _)) ?_
      rw [decide_eq_false (show ¬ (1 ≤ x.length ∧ x.length ≤ 16) by omega)]; rfl
    · rw [decide_eq_false h2]
      refine Ev.step (f := fun k => impl_areNets.l0 k 0 x (x.length : Int) 0) (fun k => by simp only [impl_areNets.j0]; rfl) ?_
      refine ev_eq (ev_forI (n := x.length) (G := fun k s i => impl_areNets.l0 k s x (x.length : Int) i) (F := fun s i => (x.drop i).all inA && (s + (x.drop i).sum == 0)) (I := fun s i => -((i : Int) * 100000000) ≤ s ∧ s ≤ (i : Int) * 100000000)
        (fun i hi ih s hI => by
          by_cases hk : inA x[i] = true
          · have hb := of_decide_eq_true hk
            refine ev_eq (Ev.step (f := fun k => impl_areNets.l0 k (s + x[i]) x (x.length : Int) ((i : Int) + 1)) (fun k => ?_) (ih (s + x[i]) ⟨by omega, by omega⟩)) ?_
            · simp only [impl_areNets.l0]
              rw [if_pos (by omega), if_pos (by omega), if_pos (by omega), show rd x (i : Int) = x[i] from getD_lt x _ i hi, if_neg (by omega), if_neg (by omega), wrap_up hi (by omega), wrap_id (by omega) (by omega)]
            · rw [all_drop x i hi, sum_drop x i hi, hk, Int.add_assoc]; rfl
          · have hb := of_decide_eq_false (Bool.eq_false_iff.mpr hk)
            refine ev_eq (Ev.step (f := fun _ => some false) (fun k => ?_) (Ev.now _)) ?_
            · simp only [impl_areNets.l0]
              rw [if_pos (by omega), if_pos (by omega), if_pos (by omega), show rd x (i : Int) = x[i] from getD_lt x _ i hi]
              by_cases h3 : x[i] < -100000000
              · rw [if_pos h3]
              · rw [if_neg h3, if_pos (by omega)]
            · rw [all_drop x i hi, Bool.eq_false_iff.mpr hk]; rfl)
        (fun s hI => by
          refine ev_eq (Ev.step (f := fun _ => some (s == 0)) (fun k => ?_) (Ev.now _)) ?_
          · simp only [impl_areNets.l0]; rw [if_neg (by omega)]
          · simp) 0 (by omega) 0 (by simp)) ?_
      rw [decide_eq_true (show 1 ≤ x.length ∧ x.length ≤ 16 by omega)]; simp
theorem nets0_len {x : List Int} (h : nets0 x = true) : 1 ≤ x.length ∧ x.length ≤ 16 := by
  simp only [nets0, Bool.and_eq_true, decide_eq_true_eq] at h
  exact h.1
end Go.Proofs.YtcghnnhhgngddaaDoor.PuZeroZeroGroups
