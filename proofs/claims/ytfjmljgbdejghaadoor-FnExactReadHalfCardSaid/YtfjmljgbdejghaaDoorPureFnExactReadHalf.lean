/- For all texts that the law's bound lets in, the program's ReadHalf returns what the reference's returns; no condition. -/
import Derived.Test.YtfjmljgbdejghaaDoorMReadHalfx0
import Derived.Test.YtfjmljgbdejghaaDoorMReadHalfx9
import Derived.Test.YtfjmljgbdejghaaDoorVReadHalfEv
import Derived.Test.YtfjmljgbdejghaaDoorPuRHalfReadHalf
import Derived.Test.YtfjmljgbdejghaaDoorPuNotchMReadHalf
import Derived.Test.YtfjmljgbdejghaaDoorPuNotchHReadHalf
namespace Go.Proofs.YtfjmljgbdejghaaDoor.Pure
open Go.RowKit Go.Proofs.YtfjmljgbdejghaaDoor.MReadHalf Go.Proofs.YtfjmljgbdejghaaDoorW.PrintWords Go.Proofs.YtfjmljgbdejghaaDoorW.PrintLast Go.Proofs.YtfjmljgbdejghaaDoor.Evs Go.Proofs.YtfjmljgbdejghaaDoor.PuGrainReadHalf Go.Proofs.YtfjmljgbdejghaaDoor.PuNotchReadHalf Go.Proofs.YtfjmljgbdejghaaDoor.PuNotchMReadHalf Go.Proofs.YtfjmljgbdejghaaDoor.PuNotchHReadHalf Go.Proofs.YtfjmljgbdejghaaDoor.PuBytReadHalf Go.Proofs.YtfjmljgbdejghaaDoor.PuWordsReadHalf Go.Proofs.YtfjmljgbdejghaaDoor.PuRHalfReadHalf
set_option linter.unusedVariables false
set_option linter.unusedSimpArgs false

theorem FnExactReadHalf (a : ByteArray) (_ : a.size ≤ 140737488351232) : ∃ k, laws_FnExactReadHalf.f k a = some true := by
  refine Ev.rounds (r := true) ?_
  unfold laws_FnExactReadHalf.f
  by_cases h : (a.size : Int) > 1048576
  · exact ev_pos h (Ev.now _)
  refine ev_neg h ?_
  obtain ⟨l, rfl⟩ : ∃ l, a = mkB l := ⟨_, (mkB_of a).symm⟩
  rw [mkB_size] at h
  have S := ReadS_ev l (by omega)
  have I := ReadI_ev l (by omega)
  have hr := readHW_len (words 32 l)
  obtain ⟨r, e⟩ : ∃ r, readHW (words 32 l) = r := ⟨_, rfl⟩
  rw [e] at S I hr
  obtain ⟨s1, l1, g1, c⟩ := r
  dsimp only at hr
  have e1 := eqH_refl s1 l1 g1 (by unfold maxLen; omega)
  have m1 := markH_ev s1 l1 g1 1 (by omega) (by omega) (by omega)
  have d1 := heldH_ev s1 l1.length g1 1 (by omega) (by omega) (by omega)
  refine Ev.bind S (Ev.bind I (Ev.bind e1 (ev_pos rfl ?_)))
  refine Ev.step (fun k => by simp only [laws_FnExactReadHalf.j0]; rfl) (ev_neg (by simp) ?_)
  refine Ev.bind m1 (Ev.bind d1 (ev_neg (by omega) (ev_pos rfl ?_)))
  refine Ev.bind I (Ev.bind e1 (ev_pos rfl ?_))
  refine Ev.step (fun k => by simp only [laws_FnExactReadHalf.j1]; rfl) (ev_neg (by simp) ?_)
  exact Ev.bind d1 (ev_neg (by omega) (ev_pos rfl (Ev.now _)))
end Go.Proofs.YtfjmljgbdejghaaDoor.Pure
