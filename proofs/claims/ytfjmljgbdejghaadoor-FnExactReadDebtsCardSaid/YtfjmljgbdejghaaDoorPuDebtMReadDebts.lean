/- The numbers that a law writes into lists of debts. -/
import Derived.Test.YtfjmljgbdejghaaDoorMReadDebtsx0
import Derived.Test.YtfjmljgbdejghaaDoorMReadDebtsx8
import Derived.Test.YtfjmljgbdejghaaDoorVReadDebtsEv
import Derived.Test.YtfjmljgbdejghaaDoorPuDebtReadDebts
namespace Go.Proofs.YtfjmljgbdejghaaDoor.PuDebtMReadDebts
open Go.RowKit Go.Proofs.YtfjmljgbdejghaaDoor.MReadDebts Go.Proofs.YtfjmljgbdejghaaDoorW.PrintWords Go.Proofs.YtfjmljgbdejghaaDoorW.PrintLast Go.Proofs.YtfjmljgbdejghaaDoor.Evs Go.Proofs.YtfjmljgbdejghaaDoor.PuDebtReadDebts
set_option linter.unusedVariables false
set_option linter.unusedSimpArgs false

def countD (m : Int) : Nat → List D
  | 0 => []
  | n + 1 => ⟨m, m + 1, m + 2⟩ :: countD (m + 3) n
theorem countD_length (m : Int) (n : Nat) : (countD m n).length = n := by
  induction n generalizing m with
  | zero => rfl
  | succ n ih => simp [countD, ih]
theorem countD_get (m : Int) (n i : Nat) (h : i < n) : (countD m n)[i]'(by rw [countD_length]; exact h) = ⟨m + 3 * i, m + 3 * i + 1, m + 3 * i + 2⟩ := by
  induction n generalizing m i with
  | zero => omega
  | succ n ih =>
    cases i with
    | zero => simp [countD]
    | succ i => simp only [countD, List.getElem_cons_succ]; rw [ih (m + 3) i (by omega)]; congr 1 <;> omega
theorem countD_take (m : Int) (n i : Nat) (h : i < n) : (countD m n).take (i + 1) = (countD m n).take i ++ [⟨m + 3 * i, m + 3 * i + 1, m + 3 * i + 2⟩] := by
  rw [List.take_succ_eq_append_getElem (by rw [countD_length]; exact h), countD_get m n i h]
theorem rd_set (x : List D) (i : Nat) (z : D) (h : i < x.length) : rd_T77 (x.set i z) (i : Int) = z := by
  show (x.set i z).getD i _ = z
  rw [getD_lt _ _ i (by simpa using h)]
  simp
theorem markD_at (l : List D) (m : Int) (hm : 0 ≤ m) (hm2 : m ≤ 1000000000) (h : l.length ≤ 10000000) : Ev (fun k => laws_markDebtS.f k l m) (m + 3 * l.length, countD m l.length) := by
  unfold laws_markDebtS.f
  have key : ∀ i : Nat, i ≤ l.length → Ev (fun k => laws_markDebtS.l0 k ((countD m l.length).take i ++ l.drop i) (m + 3 * i) (i : Int)) (m + 3 * l.length, countD m l.length) := by
    intro i hi
    obtain ⟨d, hd⟩ : ∃ d, l.length - i = d := ⟨_, rfl⟩
    have hlen : ((countD m l.length).take i ++ l.drop i).length = l.length := by
      rw [List.length_append, List.length_take, List.length_drop, countD_length]; omega
    induction d generalizing i with
    | zero =>
      have : i = l.length := by omega
      subst this
      refine Ev.step (f := fun _ => some (m + 3 * l.length, countD m l.length)) (fun k => ?_) (Ev.now _)
      simp only [laws_markDebtS.l0]
      rw [if_neg (by rw [hlen]; omega)]
      simp [List.take_of_length_le, countD_length]
    | succ d ih =>
      have hlt : i < l.length := by omega
      refine Ev.step (fun k => ?_) (ih (i + 1) (by omega) (by omega) (by rw [List.length_append, List.length_take, List.length_drop, countD_length]; omega))
      simp only [laws_markDebtS.l0, Option.bind_some]
      rw [if_pos (by rw [hlen]; omega), if_pos (by omega), wrap_up hlt (by omega), wrap_id (x := m + 3 * i + 1) (by omega) (by omega), wrap_id (x := m + 3 * i + 1 + 1) (by omega) (by omega), wrap_id (x := m + 3 * i + 1 + 1 + 1) (by omega) (by omega)]
      rw [show ((i : Int)).toNat = i from Int.toNat_natCast i]
      have hy : i < ((countD m l.length).take i ++ l.drop i).length := by rw [hlen]; exact hlt
      simp only [List.set_set, rd_set _ i _ hy]
      rw [show m + 3 * (i : Int) + 1 + 1 = m + 3 * i + 2 by omega]
      rw [List.set_append, List.length_take, countD_length, Nat.min_eq_left (Nat.le_of_lt hlt), if_neg (by omega), Nat.sub_self, countD_take m _ i hlt]
      rw [List.drop_eq_getElem_cons hlt]
      simp only [List.set_cons_zero, List.append_assoc, List.singleton_append]
      rw [show m + 3 * (i : Int) + 2 + 1 = m + 3 * ((i + 1 : Nat) : Int) by omega, show ((i : Int) + 1) = ((i + 1 : Nat) : Int) by omega]
  simpa using key 0 (by omega)
theorem markD_ev (l : List D) (m : Int) (hm : 0 ≤ m) (hm2 : m ≤ 1000000000) (h : l.length ≤ 10000000) : ∃ l', l'.length = l.length ∧ Ev (fun k => laws_markDebtS.f k l m) (m + 3 * l.length, l') :=
  ⟨_, countD_length _ _, markD_at l m hm hm2 h⟩
end Go.Proofs.YtfjmljgbdejghaaDoor.PuDebtMReadDebts
