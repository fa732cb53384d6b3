/- The numbers that a law writes into lists of notches, and finds there again. -/
import Derived.Test.YtcblnnfodpglaaaMRoomForx0
import Derived.Test.YtcblnnfodpglaaaMRoomForx1
import Derived.Test.YtcblnnfodpglaaaVRoomForEv
import Derived.Test.YtcblnnfodpglaaaPuGrainRoomFor
import Derived.Test.YtcblnnfodpglaaaPuNotchRoomFor
namespace Go.Proofs.Ytcblnnfodpglaaa.PuNotchMRoomFor
open Go.RowKit Go.Proofs.Ytcblnnfodpglaaa.MRoomFor Go.Proofs.YtcblnnfodpglaaaW.PrintWords Go.Proofs.YtcblnnfodpglaaaW.PrintLast Go.Proofs.Ytcblnnfodpglaaa.Evs Go.Proofs.Ytcblnnfodpglaaa.PuGrainRoomFor Go.Proofs.Ytcblnnfodpglaaa.PuNotchRoomFor
set_option linter.unusedVariables false
set_option linter.unusedSimpArgs false

def markT (m : Int) : T := ⟨IntKind.i8.wrap m, IntKind.i16.wrap (m + 1)⟩
def countT (m : Int) : Nat → List T
  | 0 => []
  | n + 1 => markT m :: countT (m + 2) n
theorem countT_length (m : Int) (n : Nat) : (countT m n).length = n := by
  induction n generalizing m with
  | zero => rfl
  | succ n ih => simp [countT, ih]
theorem countT_get (m : Int) (n i : Nat) (h : i < n) : (countT m n)[i]'(by rw [countT_length]; exact h) = markT (m + 2 * i) := by
  induction n generalizing m i with
  | zero => omega
  | succ n ih =>
    cases i with
    | zero => simp [countT]
    | succ i => simp only [countT, List.getElem_cons_succ]; rw [ih (m + 2) i (by omega)]; congr 1; omega
theorem countT_take (m : Int) (n i : Nat) (h : i < n) : (countT m n).take (i + 1) = (countT m n).take i ++ [markT (m + 2 * i)] := by
  rw [List.take_succ_eq_append_getElem (by rw [countT_length]; exact h), countT_get m n i h]
theorem rd_setT (x : List T) (i : Nat) (z : T) (h : i < x.length) : rd_T71 (x.set i z) (i : Int) = z := by
  show (x.set i z).getD i _ = z
  rw [getD_lt _ _ i (by simpa using h)]
  simp
theorem markN_ev (l : List T) (m : Int) (hm : 0 ≤ m) (hm2 : m ≤ 1000000000) (h : l.length ≤ 10000000) : Ev (fun k => laws_markNotchS.f k l m) (m + 2 * l.length, countT m l.length) := by
  unfold laws_markNotchS.f
  have key : ∀ i : Nat, i ≤ l.length → Ev (fun k => laws_markNotchS.l0 k ((countT m l.length).take i ++ l.drop i) (m + 2 * i) (i : Int)) (m + 2 * l.length, countT m l.length) := by
    intro i hi
    obtain ⟨d, hd⟩ : ∃ d, l.length - i = d := ⟨_, rfl⟩
    have hlen : ((countT m l.length).take i ++ l.drop i).length = l.length := by
      rw [List.length_append, List.length_take, List.length_drop, countT_length]; omega
    induction d generalizing i with
    | zero =>
      have : i = l.length := by omega
      subst this
      refine Ev.step (f := fun _ => some (m + 2 * l.length, countT m l.length)) (fun k => ?_) (Ev.now _)
      simp only [laws_markNotchS.l0]
      rw [if_neg (by rw [hlen]; omega)]
      simp [List.take_of_length_le, countT_length]
    | succ d ih =>
      have hlt : i < l.length := by omega
      refine Ev.step (fun k => ?_) (ih (i + 1) (by omega) (by omega) (by rw [List.length_append, List.length_take, List.length_drop, countT_length]; omega))
      simp only [laws_markNotchS.l0, Option.bind_some]
      rw [if_pos (by rw [hlen]; omega), if_pos (by omega), wrap_up hlt (by omega), wrap_id (x := m + 2 * i + 1) (by omega) (by omega), wrap_id (x := m + 2 * i + 1 + 1) (by omega) (by omega)]
      rw [show ((i : Int)).toNat = i from Int.toNat_natCast i]
      have hy : i < ((countT m l.length).take i ++ l.drop i).length := by rw [hlen]; exact hlt
      simp only [List.set_set, rd_setT _ i _ hy]
      rw [show (⟨IntKind.i8.wrap (m + 2 * (i : Int)), IntKind.i16.wrap (m + 2 * (i : Int) + 1)⟩ : T) = markT (m + 2 * i) from rfl]
      rw [List.set_append, List.length_take, countT_length, Nat.min_eq_left (Nat.le_of_lt hlt), if_neg (by omega), Nat.sub_self, countT_take m _ i hlt]
      rw [List.drop_eq_getElem_cons hlt]
      simp only [List.set_cons_zero, List.append_assoc, List.singleton_append]
      rw [show m + 2 * (i : Int) + 1 + 1 = m + 2 * ((i + 1 : Nat) : Int) by omega, show ((i : Int) + 1) = ((i + 1 : Nat) : Int) by omega]
  simpa using key 0 (by omega)

end Go.Proofs.Ytcblnnfodpglaaa.PuNotchMRoomFor
