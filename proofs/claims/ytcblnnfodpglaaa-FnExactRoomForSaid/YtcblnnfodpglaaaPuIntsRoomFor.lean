/- Lists of whole numbers: equality, and the numbers that a law writes into them. -/
import Derived.Test.YtcblnnfodpglaaaMRoomForx0
import Derived.Test.YtcblnnfodpglaaaMRoomForx7
import Derived.Test.YtcblnnfodpglaaaVRoomForEv
namespace Go.Proofs.Ytcblnnfodpglaaa.PuIntsRoomFor
open Go.RowKit Go.Proofs.Ytcblnnfodpglaaa.MRoomFor Go.Proofs.YtcblnnfodpglaaaW.PrintWords Go.Proofs.YtcblnnfodpglaaaW.PrintLast Go.Proofs.Ytcblnnfodpglaaa.Evs
set_option linter.unusedVariables false
set_option linter.unusedSimpArgs false

theorem rdi (l : List Int) (i : Nat) (h : i < l.length) : rd l (i : Int) = l[i] := getD_lt l _ i h
theorem eqI_any (a : List Int) (h : a.length ≤ maxLen) : Ev (fun k => laws_eqInt64S.f k a a) true := by
  unfold laws_eqInt64S.f
  unfold maxLen at h
  refine ev_pos rfl ?_
  exact ev_for (n := a.length) (G := fun k (_ : Unit) i => laws_eqInt64S.l0 k a a i) (F := fun _ _ => true) (fun i hi ih _ => by
      refine Ev.step (fun k => ?_) (ih ())
      simp only [laws_eqInt64S.l0]
      rw [if_pos (by omega), if_pos (by omega), if_pos (by omega), if_pos trivial, wrap_up hi (by omega)]) (fun _ => by
      refine Ev.step (f := fun _ => some true) (fun k => ?_) (Ev.now _)
      simp only [laws_eqInt64S.l0]
      rw [if_neg (by omega)]) 0 (by omega) ()
theorem eqI_refl (a : List Int) (h : a.length ≤ 1000000) : Ev (fun k => laws_eqInt64S.f k a a) true := eqI_any a (by unfold maxLen; omega)
/-- m, m + 1, .. -/
def count (m : Int) : Nat → List Int
  | 0 => []
  | n + 1 => m :: count (m + 1) n
theorem count_length (m : Int) (n : Nat) : (count m n).length = n := by
  induction n generalizing m with
  | zero => rfl
  | succ n ih => simp [count, ih]
theorem count_get (m : Int) (n i : Nat) (h : i < n) : (count m n)[i]'(by rw [count_length]; exact h) = m + i := by
  induction n generalizing m i with
  | zero => omega
  | succ n ih =>
    cases i with
    | zero => simp [count]
    | succ i => simp only [count, List.getElem_cons_succ]; rw [ih (m + 1) i (by omega)]; omega
theorem count_take (m : Int) (n i : Nat) (h : i < n) : (count m n).take (i + 1) = (count m n).take i ++ [m + i] := by
  rw [List.take_succ_eq_append_getElem (by rw [count_length]; exact h), count_get m n i h]
theorem markI_any (l : List Int) (m : Int) (hm : 0 ≤ m) (hm2 : m ≤ 1000000000) (h : l.length ≤ 100000000) : Ev (fun k => laws_markInt64S.f k l m) (m + l.length, count m l.length) := by
  unfold laws_markInt64S.f
  have key : ∀ i : Nat, i ≤ l.length → Ev (fun k => laws_markInt64S.l0 k ((count m l.length).take i ++ l.drop i) (m + i) (i : Int)) (m + l.length, count m l.length) := by
    intro i hi
    obtain ⟨d, hd⟩ : ∃ d, l.length - i = d := ⟨_, rfl⟩
    have hlen : ((count m l.length).take i ++ l.drop i).length = l.length := by
      rw [List.length_append, List.length_take, List.length_drop, count_length]; omega
    induction d generalizing i with
    | zero =>
      have : i = l.length := by omega
      subst this
      refine Ev.step (f := fun _ => some (m + l.length, count m l.length)) (fun k => ?_) (Ev.now _)
      simp only [laws_markInt64S.l0]
      rw [if_neg (by rw [hlen]; omega)]
      simp [List.take_of_length_le, count_length]
    | succ d ih =>
      have hlt : i < l.length := by omega
      refine Ev.step (fun k => ?_) (ih (i + 1) (by omega) (by omega) (by rw [List.length_append, List.length_take, List.length_drop, count_length]; omega))
      simp only [laws_markInt64S.l0]
      rw [if_pos (by rw [hlen]; omega), if_pos (by omega), wrap_up hlt (by omega), wrap_id (by omega) (by omega)]
      rw [show ((i : Int)).toNat = i from Int.toNat_natCast i]
      rw [List.set_append, List.length_take, count_length, Nat.min_eq_left (Nat.le_of_lt hlt), if_neg (by omega), Nat.sub_self, count_take m _ i hlt]
      rw [List.drop_eq_getElem_cons hlt]
      simp only [List.set_cons_zero, List.append_assoc, List.singleton_append]
      congr 1
      omega
  simpa using key 0 (by omega)
theorem markI_ev (l : List Int) (m : Int) (hm : 0 ≤ m) (hm2 : m ≤ 1000000000) (h : l.length ≤ 1000000) : Ev (fun k => laws_markInt64S.f k l m) (m + l.length, count m l.length) := markI_any l m hm hm2 (by omega)
theorem heldI_any (n : Nat) (m : Int) (hm : 0 ≤ m) (hm2 : m ≤ 1000000000) (h : n ≤ 100000000) : Ev (fun k => laws_heldInt64S.f k (count m n) m) (m + n) := by
  unfold laws_heldInt64S.f
  have hlen := count_length m n
  have key : ∀ i : Nat, i ≤ n → Ev (fun k => laws_heldInt64S.l0 k (count m n) (m + i) (i : Int)) (m + n) := by
    intro i hi
    obtain ⟨d, hd⟩ : ∃ d, n - i = d := ⟨_, rfl⟩
    induction d generalizing i with
    | zero =>
      have : i = n := by omega
      subst this
      refine Ev.step (f := fun _ => some (m + i)) (fun k => ?_) (Ev.now _)
      simp only [laws_heldInt64S.l0]
      rw [if_neg (by rw [hlen]; omega)]
    | succ d ih =>
      have hlt : i < n := by omega
      refine Ev.step (fun k => ?_) (ih (i + 1) (by omega) (by omega))
      simp only [laws_heldInt64S.l0]
      rw [if_pos (by rw [hlen]; omega), if_pos (by omega), rdi _ i (by rw [hlen]; exact hlt), count_get m n i hlt, if_pos rfl, wrap_up hlt (by omega), wrap_id (by omega) (by omega)]
      congr 1
      omega
  simpa using key 0 (by omega)
theorem heldI_ev (n : Nat) (m : Int) (hm : 0 ≤ m) (hm2 : m ≤ 1000000000) (h : n ≤ 1000000) : Ev (fun k => laws_heldInt64S.f k (count m n) m) (m + n) := heldI_any n m hm hm2 (by omega)
end Go.Proofs.Ytcblnnfodpglaaa.PuIntsRoomFor
