/- For all pairs of halves the program's MisfitsOf returns what the reference's returns; no condition. -/
import Derived.Test.YtgkohbjphajgoaaMMisfitsOfx0
import Derived.Test.YtgkohbjphajgoaaMMisfitsOfx10
import Derived.Test.YtgkohbjphajgoaaMMisfitsOfx9
import Derived.Test.YtgkohbjphajgoaaVMisfitsOfEv
import Derived.Test.YtgkohbjphajgoaaPuGrainMisfitsOf
import Derived.Test.YtgkohbjphajgoaaPuNotchMisfitsOf
import Derived.Test.YtgkohbjphajgoaaPuNotchSMisfitsOf
import Derived.Test.YtgkohbjphajgoaaPuFitMisfitsOf
import Derived.Test.YtgkohbjphajgoaaPuPairMisfitsOf
import Derived.Test.YtgkohbjphajgoaaPuMisMisfitsOf
import Derived.Test.YtgkohbjphajgoaaPuNotchMMisfitsOf
import Derived.Test.YtgkohbjphajgoaaPuIntsMisfitsOf
namespace Go.Proofs.Ytgkohbjphajgoaa.Pure
open Go.RowKit Go.Proofs.Ytgkohbjphajgoaa.MMisfitsOf Go.Proofs.YtgkohbjphajgoaaW.PrintWords Go.Proofs.YtgkohbjphajgoaaW.PrintLast Go.Proofs.Ytgkohbjphajgoaa.Evs Go.Proofs.Ytgkohbjphajgoaa.PuGrainMisfitsOf Go.Proofs.Ytgkohbjphajgoaa.PuNotchMisfitsOf Go.Proofs.Ytgkohbjphajgoaa.PuNotchSMisfitsOf Go.Proofs.Ytgkohbjphajgoaa.PuFitMisfitsOf Go.Proofs.Ytgkohbjphajgoaa.PuPairMisfitsOf Go.Proofs.Ytgkohbjphajgoaa.PuMisMisfitsOf Go.Proofs.Ytgkohbjphajgoaa.PuNotchMMisfitsOf Go.Proofs.Ytgkohbjphajgoaa.PuIntsMisfitsOf
set_option linter.unusedVariables false
set_option linter.unusedSimpArgs false

theorem FnExactMisfitsOf (s : Bool) (l : List TL) (g : Vector Int 16) (s2 : Bool) (l2 : List TL) (g2 : Vector Int 16) (hl : l.length ≤ maxLen) (hz : ∀ z ∈ l, (Lit.int .i8 z.f0).wf = true ∧ (Lit.int .i16 z.f1).wf = true) (_ : Arr.ArrWf .i8 g)
    (hl2 : l2.length ≤ maxLen) (hz2 : ∀ z ∈ l2, (Lit.int .i8 z.f0).wf = true ∧ (Lit.int .i16 z.f1).wf = true) (_ : Arr.ArrWf .i8 g2) : ∃ k, laws_FnExactMisfitsOf.f k s l g s2 l2 g2 = some true := by
  refine Ev.rounds (r := true) ?_
  unfold laws_FnExactMisfitsOf.f
  refine ev_bind0 (szH s l g 1048576 (by omega) (by omega) hl) ?_
  by_cases h1 : (1048576 : Int) - l.length < 0
  · rw [if_pos h1]; exact Ev.now _
  rw [if_neg h1]
  refine ev_neg h1 (ev_bind0 (szH s2 l2 g2 _ (by omega) (by omega) hl2) ?_)
  by_cases h2 : (1048576 : Int) - l.length - l2.length < 0
  · rw [if_pos h2]; exact Ev.now _
  rw [if_neg h2]
  have t := toH_ev s l g (by omega)
  have t2 := toH_ev s2 l2 g2 (by omega)
  have hm : (l.map toT).length ≤ maxLen := by rw [List.length_map]; exact hl
  have hm2 : (l2.map toT).length ≤ maxLen := by rw [List.length_map]; exact hl2
  have hw := wf_map hz
  have hw2 := wf_map hz2
  have la : (l.map toT).length ≤ 1048576 := by rw [List.length_map]; omega
  have lb : (l2.map toT).length ≤ 1048576 := by rw [List.length_map]; omega
  have S := MisS_ev s (l.map toT) g s2 (l2.map toT) g2 la lb hw hw2
  have I := MisI_ev s (l.map toT) g s2 (l2.map toT) g2 la lb hw hw2
  have hlen := misR_len s (l.map toT) g s2 (l2.map toT) g2
  have hmax : most (l.map toT) (l2.map toT) ≤ 1048576 := by unfold most; split <;> omega
  obtain ⟨r, hr⟩ : ∃ r, misR s (l.map toT) g s2 (l2.map toT) g2 = r := ⟨_, rfl⟩
  rw [hr] at S I hlen
  obtain ⟨p, q, c⟩ := r
  simp only at hlen
  have ep := eqI_any p (by unfold maxLen; omega)
  have eq := eqI_any q (by unfold maxLen; omega)
  have hh1 : Ev (fun k => laws_heldInt64S.f k (count 1 p.length) 1) (1 + p.length) := heldI_any p.length 1 (by omega) (by omega) (by omega)
  have hh2 : Ev (fun k => laws_heldInt64S.f k (count (1 + p.length) q.length) (1 + p.length)) (1 + p.length + q.length) := heldI_any q.length (1 + p.length) (by omega) (by omega) (by omega)
  refine ev_neg h2 (Ev.bind t (Ev.bind t2 (Ev.bind S (Ev.bind t (Ev.bind t2 (Ev.bind I ?_))))))
  refine Ev.bind ep (ev_pos rfl (Ev.bind eq (ev_pos rfl ?_)))
  refine Ev.step (fun k => by simp only [laws_FnExactMisfitsOf.j0]; rfl) (ev_neg (by simp) ?_)
  refine Ev.bind t (Ev.bind (eqH_refl s _ g hm) (ev_pos rfl (Ev.bind t2 (Ev.bind (eqH_refl s2 _ g2 hm2) (ev_pos rfl ?_)))))
  have m1 : Ev (fun k => laws_markHalf.f k s (l.map toT) g 1) (1 + 2 * ((l.map toT).length : Int), countT 1 (l.map toT).length) := by
    unfold laws_markHalf.f
    exact Ev.bind (markN_ev (l.map toT) 1 (by omega) (by omega) (by omega)) (Ev.now _)
  have m2 : Ev (fun k => laws_markHalf.f k s2 (l2.map toT) g2 (1 + 2 * ((l.map toT).length : Int))) (1 + 2 * ((l.map toT).length : Int) + 2 * ((l2.map toT).length : Int), countT (1 + 2 * ((l.map toT).length : Int)) (l2.map toT).length) := by
    unfold laws_markHalf.f
    exact Ev.bind (markN_ev (l2.map toT) _ (by omega) (by omega) (by omega)) (Ev.now _)
  refine Ev.bind m1 (Ev.bind m2 (ev_neg (by simp only; omega) ?_))
  refine Ev.bind ep (ev_pos rfl (Ev.bind eq (ev_pos rfl ?_)))
  refine Ev.step (fun k => by simp only [laws_FnExactMisfitsOf.j1]; rfl) (ev_neg (by simp) ?_)
  refine Ev.bind (markI_any p 1 (by omega) (by omega) (by omega)) (Ev.bind (markI_any q (1 + p.length) (by omega) (by omega) (by omega)) ?_)
  refine Ev.bind hh1 (ev_neg (by omega) (Ev.bind hh2 (ev_neg (by omega) (ev_pos rfl ?_))))
  refine Ev.bind t (Ev.bind t2 (Ev.bind I (Ev.bind ep (ev_pos rfl (Ev.bind eq (ev_pos rfl ?_))))))
  refine Ev.step (fun k => by simp only [laws_FnExactMisfitsOf.j2]; rfl) (ev_neg (by simp) ?_)
  exact Ev.bind hh1 (ev_neg (by omega) (Ev.bind hh2 (ev_neg (by omega) (ev_pos rfl (Ev.now _)))))
end Go.Proofs.Ytgkohbjphajgoaa.Pure
