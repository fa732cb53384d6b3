/- For all whole numbers the program's NotchesFor returns what the reference's returns; no condition. -/
import Derived.Test.YtaodkhgffjnfoaaMNotchesForx0
import Derived.Test.YtaodkhgffjnfoaaMNotchesForx6
import Derived.Test.YtaodkhgffjnfoaaEv
import Derived.Test.YtaodkhgffjnfoaaPuGrainNotchesFor
import Derived.Test.YtaodkhgffjnfoaaPuNotchNotchesFor
import Derived.Test.YtaodkhgffjnfoaaPuHalf1NotchesFor
import Derived.Test.YtaodkhgffjnfoaaPuForNotchesFor
import Derived.Test.YtaodkhgffjnfoaaPuNotchMNotchesFor
namespace Go.Proofs.Ytaodkhgffjnfoaa.Pure
open Go.RowKit Go.Proofs.Ytaodkhgffjnfoaa.MNotchesFor Go.Proofs.YtaodkhgffjnfoaaW.PrintWords Go.Proofs.YtaodkhgffjnfoaaW.PrintLast Go.Proofs.Ytaodkhgffjnfoaa.Evs Go.Proofs.Ytaodkhgffjnfoaa.PuGrainNotchesFor Go.Proofs.Ytaodkhgffjnfoaa.PuNotchNotchesFor Go.Proofs.Ytaodkhgffjnfoaa.PuHalf1NotchesFor Go.Proofs.Ytaodkhgffjnfoaa.PuForNotchesFor Go.Proofs.Ytaodkhgffjnfoaa.PuNotchMNotchesFor
set_option linter.unusedVariables false
set_option linter.unusedSimpArgs false

theorem FnExactNotchesFor (x : Int) (_ : (Lit.int .i64 x).wf = true) : ∃ k, laws_FnExactNotchesFor.f k x = some true := by
  refine Ev.rounds (r := true) ?_
  unfold laws_FnExactNotchesFor.f
  obtain ⟨r, hr⟩ : ∃ r, forR x = r := ⟨_, rfl⟩
  have hl := forR_len x
  have S := ForS_ev x
  have I := ForI_ev x
  rw [hr] at hl S I
  have hm : r.1.length ≤ maxLen := by unfold maxLen; omega
  have hh := heldN_ev r.1.length 1 (by omega) (by omega) (by omega)
  refine Ev.bind S (Ev.bind I (Ev.bind (eqN_refl r.1 hm) (ev_pos rfl ?_)))
  refine Ev.step (fun k => by simp only [laws_FnExactNotchesFor.j0]; rfl) (ev_neg (by simp) ?_)
  refine Ev.bind (markN_ev r.1 1 (by omega) (by omega) (by omega)) (Ev.bind hh (ev_neg (by omega) (ev_pos rfl ?_)))
  refine Ev.bind I (Ev.bind (eqN_refl r.1 hm) (ev_pos rfl ?_))
  refine Ev.step (fun k => by simp only [laws_FnExactNotchesFor.j1]; rfl) (ev_neg (by simp) ?_)
  exact Ev.bind hh (ev_neg (by omega) (ev_pos rfl (Ev.now _)))
end Go.Proofs.Ytaodkhgffjnfoaa.Pure
