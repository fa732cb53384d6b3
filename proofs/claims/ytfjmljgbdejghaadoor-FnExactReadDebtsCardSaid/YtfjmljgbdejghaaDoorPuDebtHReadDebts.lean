/- The numbers that a law finds again in lists of debts. -/
import Derived.Test.YtfjmljgbdejghaaDoorMReadDebtsx0
import Derived.Test.YtfjmljgbdejghaaDoorMReadDebtsx8
import Derived.Test.YtfjmljgbdejghaaDoorVReadDebtsEv
import Derived.Test.YtfjmljgbdejghaaDoorPuDebtMReadDebts
namespace Go.Proofs.YtfjmljgbdejghaaDoor.PuDebtHReadDebts
open Go.RowKit Go.Proofs.YtfjmljgbdejghaaDoor.MReadDebts Go.Proofs.YtfjmljgbdejghaaDoorW.PrintWords Go.Proofs.YtfjmljgbdejghaaDoorW.PrintLast Go.Proofs.YtfjmljgbdejghaaDoor.Evs Go.Proofs.YtfjmljgbdejghaaDoor.PuDebtReadDebts Go.Proofs.YtfjmljgbdejghaaDoor.PuDebtMReadDebts
set_option linter.unusedVariables false
set_option linter.unusedSimpArgs false

theorem heldD_ev (n : Nat) (m : Int) (hm : 0 ≤ m) (hm2 : m ≤ 1000000000) (h : n ≤ 1000000) : Ev (fun k => laws_heldDebtS.f k (countD m n) m) (m + 3 * n) := by
  unfold laws_heldDebtS.f
  have hlen := countD_length m n
  have key : ∀ i : Nat, i ≤ n → Ev (fun k => laws_heldDebtS.l0 k (countD m n) (m + 3 * i) (i : Int)) (m + 3 * n) := by
    intro i hi
    obtain ⟨d, hd⟩ : ∃ d, n - i = d := ⟨_, rfl⟩
    induction d generalizing i with
    | zero =>
      have : i = n := by omega
      subst this
      refine Ev.step (f := fun _ => some (m + 3 * i)) (fun k => ?_) (Ev.now _)
      simp only [laws_heldDebtS.l0]
      rw [if_neg (by rw [hlen]; omega)]
    | succ d ih =>
      have hlt : i < n := by omega
      refine Ev.step (fun k => ?_) (ih (i + 1) (by omega) (by omega))
      simp only [laws_heldDebtS.l0]
      rw [if_pos (by rw [hlen]; omega), if_pos (by omega), rdD _ i (by rw [hlen]; exact hlt), countD_get m n i hlt]
      rw [wrap_id (x := m + 3 * i + 1) (by omega) (by omega), wrap_id (x := m + 3 * i + 1 + 1) (by omega) (by omega), wrap_id (x := m + 3 * i + 1 + 1 + 1) (by omega) (by omega)]
      rw [if_pos rfl, if_pos rfl, if_pos (by dsimp only; omega), wrap_up hlt (by omega)]
      rw [show m + 3 * (i : Int) + 1 + 1 + 1 = m + 3 * ((i + 1 : Nat) : Int) by omega, show ((i : Int) + 1) = ((i + 1 : Nat) : Int) by omega]
  simpa using key 0 (by omega)
end Go.Proofs.YtfjmljgbdejghaaDoor.PuDebtHReadDebts
