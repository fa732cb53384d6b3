/- For all texts that the law's bound lets in, the program's ReadDebts returns what the reference's returns; no condition. -/
import Derived.Test.YtfjmljgbdejghaaDoorMReadDebtsx0
import Derived.Test.YtfjmljgbdejghaaDoorMReadDebtsx9
import Derived.Test.YtfjmljgbdejghaaDoorVReadDebtsEv
import Derived.Test.YtfjmljgbdejghaaDoorPuRDebtReadDebts
import Derived.Test.YtfjmljgbdejghaaDoorPuDebtMReadDebts
import Derived.Test.YtfjmljgbdejghaaDoorPuDebtHReadDebts
namespace Go.Proofs.YtfjmljgbdejghaaDoor.Pure
open Go.RowKit Go.Proofs.YtfjmljgbdejghaaDoor.MReadDebts Go.Proofs.YtfjmljgbdejghaaDoorW.PrintWords Go.Proofs.YtfjmljgbdejghaaDoorW.PrintLast Go.Proofs.YtfjmljgbdejghaaDoor.Evs Go.Proofs.YtfjmljgbdejghaaDoor.PuDebtReadDebts Go.Proofs.YtfjmljgbdejghaaDoor.PuBytReadDebts Go.Proofs.YtfjmljgbdejghaaDoor.PuDebtMReadDebts Go.Proofs.YtfjmljgbdejghaaDoor.PuDebtHReadDebts Go.Proofs.YtfjmljgbdejghaaDoor.PuReadReadDebts Go.Proofs.YtfjmljgbdejghaaDoor.PuRDebtReadDebts
set_option linter.unusedVariables false
set_option linter.unusedSimpArgs false

theorem FnExactReadDebts (a : ByteArray) (_ : a.size ≤ 140737488351232) : ∃ k, laws_FnExactReadDebts.f k a = some true := by
  refine Ev.rounds (r := true) ?_
  unfold laws_FnExactReadDebts.f
  refine ev_if (fun h => Ev.now _) (fun h => ?_)
  obtain ⟨l, rfl⟩ : ∃ l, a = mkB l := ⟨_, (mkB_of a).symm⟩
  rw [mkB_size] at h
  have S := RDebtS_ev l (by omega)
  have I := RDebtI_ev l (by omega)
  have hr := readD_len l
  obtain ⟨r, e⟩ : ∃ r, readD l = r := ⟨_, rfl⟩
  rw [e] at S I hr
  have er := eqS_refl r.1 (by unfold maxLen; omega)
  have hh := heldD_ev r.1.length 1 (by omega) (by omega) (by omega)
  refine Ev.bind S (Ev.bind I (Ev.bind er (ev_pos rfl ?_)))
  rw [bne_self_eq_false]
  refine Ev.step (fun k => by simp only [laws_FnExactReadDebts.j0]; rfl) (ev_neg (by simp) ?_)
  refine Ev.bind (markD_at r.1 1 (by omega) (by omega) (by omega)) (Ev.bind hh (ev_neg (by omega) (ev_pos rfl ?_)))
  refine Ev.bind I (Ev.bind er (ev_pos rfl ?_))
  rw [bne_self_eq_false]
  refine Ev.step (fun k => by simp only [laws_FnExactReadDebts.j1]; rfl) (ev_neg (by simp) ?_)
  exact Ev.bind hh (ev_neg (by omega) (ev_pos rfl (Ev.now _)))
end Go.Proofs.YtfjmljgbdejghaaDoor.Pure
