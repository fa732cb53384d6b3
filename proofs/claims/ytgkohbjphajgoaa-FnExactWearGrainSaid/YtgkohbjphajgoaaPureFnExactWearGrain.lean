/- For all grains and numbers the program and the reference wear the grain alike; no condition. -/
import Derived.Test.YtgkohbjphajgoaaMWearGrainx0
import Derived.Test.YtgkohbjphajgoaaMWearGrainx1
import Derived.Test.YtgkohbjphajgoaaMWearGrainx2
import Derived.Test.YtgkohbjphajgoaaEv
import Derived.Test.YtgkohbjphajgoaaPuGrainWearGrain
namespace Go.Proofs.Ytgkohbjphajgoaa.Pure
open Go.RowKit Go.Proofs.Ytgkohbjphajgoaa.MWearGrain Go.Proofs.YtgkohbjphajgoaaW.PrintWords Go.Proofs.YtgkohbjphajgoaaW.PrintLast Go.Proofs.Ytgkohbjphajgoaa.Evs Go.Proofs.Ytgkohbjphajgoaa.PuGrainWearGrain
set_option linter.unusedVariables false
set_option linter.unusedSimpArgs false

def wearF (x : G) (at_ by_ : Int) : G × Int :=
  if okG x = true then
    if 0 ≤ at_ ∧ at_ ≤ 15 ∧ (by_ = -1 ∨ by_ = 1) then
      let y := Arr.vst x at_ (IntKind.i8.wrap ((Arr.vrd x at_) + (IntKind.i8.wrap by_)))
      if okG y = true then (y, 0) else (zeroG, 4)
    else (zeroG, 2)
  else (zeroG, 1)
theorem WearS_ev (x : G) (p q : Int) : Ev (fun k => spec_WearGrain.f k x p q) (wearF x p q) := by
  unfold spec_WearGrain.f
  refine Ev.bind (l01Grain_ev x) ?_
  unfold wearF
  by_cases h : okG x = true
  · rw [if_pos h]
    refine ev_pos h ?_
    have bad : Ev (fun k => spec_WearGrain.j0 k p q true x) (zeroG, 2) := Ev.step (f := fun _ => some (zeroG, 2)) (fun k => by simp only [spec_WearGrain.j0]; rfl) (Ev.now _)
    have good : 0 ≤ p → p ≤ 15 → Ev (fun k => spec_WearGrain.j0 k p q false x) (if okG (Arr.vst x p (IntKind.i8.wrap ((Arr.vrd x p) + (IntKind.i8.wrap q)))) = true then (Arr.vst x p (IntKind.i8.wrap ((Arr.vrd x p) + (IntKind.i8.wrap q))), 0) else (zeroG, 4)) := by
      intro h0 h1
      refine Ev.step (fun k => by simp only [spec_WearGrain.j0]; rfl) ?_
      refine ev_neg (by simp) (ev_pos h0 (ev_pos (by omega) (ev_bind0 rfl (Ev.bind (l01Grain_ev _) ?_))))
      by_cases h2 : okG (Arr.vst x p (IntKind.i8.wrap ((Arr.vrd x p) + (IntKind.i8.wrap q)))) = true
      · exact ev_pos h2 (ev_eq (Ev.now _) (if_pos h2).symm)
      · exact ev_neg h2 (ev_eq (Ev.now _) (if_neg h2).symm)
    have inE : spec_l00In.f p 0 15 = some (decide (0 ≤ p ∧ p ≤ 15)) := by
      unfold spec_l00In.f
      by_cases h0 : p ≥ 0
      · rw [if_pos h0]; simp [show 0 ≤ p from h0]
      · rw [if_neg h0]; simp [show ¬ 0 ≤ p from h0]
    refine ev_bind0 inE ?_
    by_cases h3 : 0 ≤ p ∧ p ≤ 15
    · refine ev_pos (by simpa using h3) ?_
      by_cases h4 : q = -1
      · rw [if_pos ⟨h3.1, h3.2, .inl h4⟩]
        exact ev_pos h4 (good h3.1 h3.2)
      · refine ev_neg h4 ?_
        by_cases h5 : q = 1
        · rw [if_pos ⟨h3.1, h3.2, .inr h5⟩, show (q != 1) = false by simp [h5]]
          exact good h3.1 h3.2
        · rw [if_neg (fun z => z.2.2.elim h4 h5), show (q != 1) = true by simp [h5]]
          exact bad
    · rw [if_neg (fun z => h3 ⟨z.1, z.2.1⟩)]
      exact ev_neg (by simpa using h3) bad
  · rw [if_neg h]
    exact ev_neg h (Ev.now _)
theorem WearI_ev (x : G) (p q : Int) : Ev (fun k => impl_WearGrain.f k x p q) (wearF x p q) := by
  unfold impl_WearGrain.f
  refine Ev.bind (ValidGrainI_ev x) ?_
  unfold wearF
  by_cases h : okG x = true
  · rw [if_pos h]
    refine ev_pos h ?_
    have bad : Ev (fun k => impl_WearGrain.j0 k p q true x) (zeroG, 2) := Ev.step (f := fun _ => some (zeroG, 2)) (fun k => by simp only [impl_WearGrain.j0]; rfl) (Ev.now _)
    have good : 0 ≤ p → p ≤ 15 → Ev (fun k => impl_WearGrain.j0 k p q false x) (if okG (Arr.vst x p (IntKind.i8.wrap ((Arr.vrd x p) + (IntKind.i8.wrap q)))) = true then (Arr.vst x p (IntKind.i8.wrap ((Arr.vrd x p) + (IntKind.i8.wrap q))), 0) else (zeroG, 4)) := by
      intro h0 h1
      refine Ev.step (fun k => by simp only [impl_WearGrain.j0]; rfl) ?_
      refine ev_neg (by simp) (ev_pos h0 (ev_pos (by omega) (ev_bind0 rfl (Ev.bind (ValidGrainI_ev _) ?_))))
      by_cases h2 : okG (Arr.vst x p (IntKind.i8.wrap ((Arr.vrd x p) + (IntKind.i8.wrap q)))) = true
      · exact ev_pos h2 (ev_eq (Ev.now _) (if_pos h2).symm)
      · exact ev_neg h2 (ev_eq (Ev.now _) (if_neg h2).symm)
    by_cases h3 : p < 0
    · rw [if_neg (fun z => by omega)]
      exact ev_pos h3 bad
    refine ev_neg h3 ?_
    by_cases h4 : p ≥ 16
    · rw [if_neg (fun z => by omega)]
      exact ev_pos h4 bad
    refine ev_neg h4 ?_
    by_cases h5 : q = -1
    · rw [if_pos ⟨by omega, by omega, .inl h5⟩]
      exact ev_pos h5 (good (by omega) (by omega))
    · refine ev_neg h5 ?_
      by_cases h6 : q = 1
      · rw [if_pos ⟨by omega, by omega, .inr h6⟩, show (q != 1) = false by simp [h6]]
        exact good (by omega) (by omega)
      · rw [if_neg (fun z => z.2.2.elim h5 h6), show (q != 1) = true by simp [h6]]
        exact bad
  · rw [if_neg h]
    exact ev_neg h (Ev.now _)
theorem FnExactWearGrain (a : Vector Int 16) (p q : Int) (_ : Arr.ArrWf .i8 a) (_ : (Lit.int .i64 p).wf = true) (_ : (Lit.int .i64 q).wf = true) : ∃ k, laws_FnExactWearGrain.f k a p q = some true := by
  refine Ev.rounds (r := true) ?_
  unfold laws_FnExactWearGrain.f
  refine Ev.bind (toGrain_ev a) (Ev.bind (WearS_ev a p q) (Ev.bind (toGrain_ev a) (Ev.bind (WearI_ev a p q) (Ev.bind (eqGrain_refl _) ?_))))
  exact ev_pos rfl (ev_pos rfl (Ev.now _))
end Go.Proofs.Ytgkohbjphajgoaa.Pure
