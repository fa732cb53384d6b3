/- For all nets and lists of payments the program's SettlesAll returns what the reference's returns; no condition. -/
import Derived.Test.YtgmciklleapocaaMSx0
import Derived.Test.YtgmciklleapocaaMSx14
import Derived.Test.YtgmciklleapocaaMSx18
import Derived.Test.YtgmciklleapocaaMSx20
import Derived.Test.YtgmciklleapocaaMSx21
import Derived.Test.YtgmciklleapocaaEv
import Derived.Test.YtgmciklleapocaaPuSumNets
import Derived.Test.YtgmciklleapocaaPuZero
import Derived.Test.YtgmciklleapocaaPuToI
import Derived.Test.YtgmciklleapocaaPuSameI
import Derived.Test.YtgmciklleapocaaPuInts
namespace Go.Proofs.Ytgmciklleapocaa.Pure
open Go.RowKit Go.Proofs.Ytgmciklleapocaa.MS Go.Proofs.YtgmciklleapocaaW.PrintWords Go.Proofs.YtgmciklleapocaaW.PrintLast Go.Proofs.Ytgmciklleapocaa.Evs Go.Proofs.Ytgmciklleapocaa.PuDebt Go.Proofs.Ytgmciklleapocaa.PuSumNets Go.Proofs.Ytgmciklleapocaa.PuZero Go.Proofs.Ytgmciklleapocaa.PuToI Go.Proofs.Ytgmciklleapocaa.PuSameI Go.Proofs.Ytgmciklleapocaa.PuInts
set_option linter.unusedVariables false
set_option linter.unusedSimpArgs false

noncomputable def setR (x : List Int) (l : List D) : Bool × Int := if nets0 x = true ∧ valid x.length l = true then (dec (netsW x.length l = x), 0) else (false, 1)
theorem setS_ev (x : List Int) (l : List D) (hx : x.length ≤ maxLen) (hl : l.length ≤ maxLen) : Ev (fun k => spec_SettlesAll.f k x l) (setR x l) := by
  unfold spec_SettlesAll.f setR
  refine Ev.bind (ZeroS_ev x hx) ?_
  have hf : Ev (fun k => spec_SettlesAll.j0 k x l true) (false, 1) := Ev.step (f := fun _ => some (false, 1)) (fun k => by simp only [spec_SettlesAll.j0]; rfl) (Ev.now _)
  by_cases h0 : nets0 x = true
  · refine ev_pos h0 (Ev.bind (l02Ok_ev _ l hl) ?_)
    by_cases hv : valid x.length l = true
    · rw [hv, if_pos ⟨h0, rfl⟩]
      refine Ev.step (fun k => by simp only [spec_SettlesAll.j0]; rfl) ?_
      refine Ev.bind (netsS_ev _ l hv) (Ev.bind (l00Same_ev _ x ?_) (Ev.now _))
      rw [netsW_length]; unfold maxLen at hx ⊢; omega
    · rw [Bool.eq_false_iff.mpr hv, if_neg (fun h => by cases h.2)]
      exact hf
  · refine ev_neg h0 ?_
    rw [if_neg (fun h => h0 h.1)]
    exact hf
theorem setI_ev (x : List Int) (l : List D) (hx : x.length ≤ maxLen) (hl : l.length ≤ maxLen) : Ev (fun k => impl_SettlesAll.f k x l) (setR x l) := by
  unfold impl_SettlesAll.f setR
  refine Ev.bind (ZeroI_ev x hx) ?_
  have hf : Ev (fun k => impl_SettlesAll.j0 k x l (x.length : Int) true) (false, 1) := Ev.step (f := fun _ => some (false, 1)) (fun k => by simp only [impl_SettlesAll.j0]; rfl) (Ev.now _)
  by_cases h0 : nets0 x = true
  · refine ev_pos h0 (Ev.bind (ValidI_ev _ l hl) ?_)
    by_cases hv : valid x.length l = true
    · rw [hv, if_pos ⟨h0, rfl⟩]
      refine Ev.step (fun k => by simp only [impl_SettlesAll.j0]; rfl) ?_
      have hn := NetsI_ev (x.length : Int) l hl
      unfold netsR at hn
      rw [if_pos hv] at hn
      refine Ev.bind hn (Ev.bind (equalI_ev _ x ?_) (Ev.now _))
      dsimp only
      rw [netsW_length]; unfold maxLen at hx ⊢; omega
    · rw [Bool.eq_false_iff.mpr hv, if_neg (fun h => by cases h.2)]
      exact hf
  · refine ev_neg h0 ?_
    rw [if_neg (fun h => h0 h.1)]
    exact hf
theorem FnExactSettlesAll (x : List Int) (a : List DL) (hx : x.length ≤ maxLen) (_ : ∀ z ∈ x, (Lit.int .i64 z).wf = true) (ha : a.length ≤ maxLen) (_ : ∀ z ∈ a, (Lit.int .i64 z.f0).wf = true ∧ (Lit.int .i64 z.f1).wf = true ∧ (Lit.int .i64 z.f2).wf = true) : ∃ k, laws_FnExactSettlesAll.f k x a = some true := by
  refine Ev.rounds (r := true) ?_
  unfold laws_FnExactSettlesAll.f
  by_cases h0 : (x.length : Int) > 1048576
  · exact ev_pos h0 (Ev.now _)
  refine ev_neg h0 (ev_bind0 (sz a 1048576 (by omega) (by omega) ha) ?_)
  by_cases h1 : (1048576 : Int) - a.length < 0
  · rw [if_pos h1]; exact Ev.now _
  rw [if_neg h1]
  refine ev_neg h1 ?_
  have ta := toS_ev a (by omega)
  have tx := toI_ev x (by omega)
  have la : (a.map toD).length ≤ maxLen := by rw [List.length_map]; exact ha
  refine Ev.bind tx (Ev.bind ta (Ev.bind (setS_ev x _ hx la) (Ev.bind tx (Ev.bind ta (Ev.bind (setI_ev x _ hx la) ?_)))))
  refine ev_neg (by simp) ?_
  rw [bne_self_eq_false]
  have hI : Ev (fun k => laws_eqInt64S.f k x x) true := eqI_any x hx
  refine Ev.step (fun k => by simp only [laws_FnExactSettlesAll.j0]; rfl) ?_
  refine Ev.bind tx (Ev.bind hI (ev_pos rfl (Ev.bind ta (Ev.bind (eqS_refl _ la) (ev_pos rfl (Ev.now _))))))
end Go.Proofs.Ytgmciklleapocaa.Pure
