/- A notch put into a half: what the reference's l01Cut and the program's cut come to. -/
import Derived.Test.YtcblnnfodpglaaaMRoomForx0
import Derived.Test.YtcblnnfodpglaaaMRoomForx2
import Derived.Test.YtcblnnfodpglaaaMRoomForx5
import Derived.Test.YtcblnnfodpglaaaMRoomForx6
import Derived.Test.YtcblnnfodpglaaaVRoomForEv
import Derived.Test.YtcblnnfodpglaaaPuGrainRoomFor
import Derived.Test.YtcblnnfodpglaaaPuNotchRoomFor
namespace Go.Proofs.Ytcblnnfodpglaaa.PuCutNRoomFor
open Go.RowKit Go.Proofs.Ytcblnnfodpglaaa.MRoomFor Go.Proofs.YtcblnnfodpglaaaW.PrintWords Go.Proofs.YtcblnnfodpglaaaW.PrintLast Go.Proofs.Ytcblnnfodpglaaa.Evs Go.Proofs.Ytcblnnfodpglaaa.PuGrainRoomFor Go.Proofs.Ytcblnnfodpglaaa.PuNotchRoomFor
set_option linter.unusedVariables false
set_option linter.unusedSimpArgs false
def mkN (a b : Int) : T := ⟨IntKind.i8.wrap a, IntKind.i16.wrap b⟩
def insT (n : T) : List T → List T
  | [] => [n]
  | x :: r => if x.f1 > n.f1 then n :: x :: r else x :: insT n r
theorem insT_length (n : T) : ∀ l, (insT n l).length = l.length + 1
  | [] => rfl
  | x :: r => by
    unfold insT
    split
    · simp
    · simp [insT_length n r]
theorem insT_mem {n z : T} : ∀ l, z ∈ insT n l → z = n ∨ z ∈ l
  | [], h => by simpa [insT] using h
  | x :: r, h => by
    unfold insT at h
    split at h
    · simpa using h
    · rcases List.mem_cons.1 h with h | h
      · exact .inr (by simp [h])
      · rcases insT_mem r h with h | h
        · exact .inl h
        · exact .inr (by simp [h])
theorem insT_at (n : T) : ∀ (l : List T) (i : Nat), (∀ x ∈ l.take i, x.f1 ≤ n.f1) → i ≤ l.length → (∀ h : i < l.length, l[i].f1 > n.f1) → insT n l = l.take i ++ [n] ++ l.drop i
  | [], i, _, _, _ => by simp [insT]
  | x :: r, 0, _, _, h => by
    have h0 : x.f1 > n.f1 := h (by simp)
    unfold insT
    rw [if_pos h0]
    simp
  | x :: r, i + 1, hb, hi, h => by
    have h0 : ¬ x.f1 > n.f1 := by have := hb x (by simp); omega
    unfold insT
    rw [if_neg h0, insT_at n r i (fun y hy => hb y (by simp [hy])) (by simpa using hi) (fun hlt => h (by simp; omega))]
    simp
theorem i16_id {x : Int} (h0 : -32768 ≤ x) (h1 : x ≤ 32767) : IntKind.i16.wrap x = x := by
  simp [IntKind.wrap, IntKind.signed, IntKind.bits]
  omega
theorem mkN_wf {a b : Int} (hk : kd a = true) (h0 : 0 ≤ b) (h1 : b ≤ 200) : wfT (mkN a b) := by
  have h := of_decide_eq_true hk
  unfold mkN wfT
  dsimp only
  rw [i8_id (by omega) (by omega), i16_id (by omega) (by omega)]
  omega
theorem cutS_ev (l : List T) (a b : Int) (hl : l.length ≤ 1000000) : Ev (fun k => spec_l01Cut.f k l a b) (insT (mkN a b) l) := by
  unfold spec_l01Cut.f
  have key := ev_forI (n := l.length) (G := fun k (s : List T × Bool) i => spec_l01Cut.l0 k l s.1 s.2 i (IntKind.i8.wrap a) (IntKind.i16.wrap b)) (F := fun (s : List T × Bool) i => s.1 ++ (if s.2 = true then l.drop i else insT (mkN a b) (l.drop i))) (I := fun s i => s.1.length ≤ 2 * i) ?_ ?_ 0 (by omega) ([], false) (by simp)
  · simpa using key
  · intro i hi ih s hI
    obtain ⟨acc, d⟩ := s
    dsimp only at hI ⊢
    refine Ev.step (fun k => by simp only [spec_l01Cut.l0]; rfl) (ev_pos (by omega) ?_)
    rw [wrap_up hi (by omega), rdT l i hi]
    rw [List.drop_eq_getElem_cons hi]
    cases d with
    | true =>
      refine ev_pos rfl (ev_pos (by omega) (ev_pos (by omega) ?_))
      exact ev_eq (ih (acc ++ [l[i]], true) (by simp; omega)) (by simp)
    | false =>
      refine ev_neg (by simp) (ev_pos (by omega) ?_)
      by_cases hc : l[i].f1 > IntKind.i16.wrap b
      · refine ev_pos hc (ev_pos (by omega) (ev_bind0 rfl (ev_pos (by simp; omega) ?_)))
        refine ev_eq (ih (acc ++ [mkN a b] ++ [l[i]], true) (by simp; omega)) ?_
        have hc' : l[i].f1 > (mkN a b).f1 := hc
        simp [insT, hc']
      · refine ev_neg hc (ev_pos (by omega) ?_)
        refine ev_eq (ih (acc ++ [l[i]], false) (by simp; omega)) ?_
        have hc' : ¬ l[i].f1 > (mkN a b).f1 := hc
        simp [insT, hc']
  · intro s hI
    obtain ⟨acc, d⟩ := s
    dsimp only at hI ⊢
    refine Ev.step (fun k => by simp only [spec_l01Cut.l0]; rfl) (ev_neg (by omega) ?_)
    cases d with
    | true => exact ev_pos rfl (ev_eq (Ev.now _) (by simp))
    | false => exact ev_neg (by simp) (ev_pos (by omega) (ev_eq (Ev.now _) (by simp [insT, mkN])))
theorem cloneN (l : List T) (hl : l.length ≤ 1000000) : impl_Notch_41.f l = some l := by
  unfold impl_Notch_41.f
  rw [Option.bind_some, if_pos (by simp; omega)]
  simp
theorem insN (l : List T) (i : Nat) (n : T) (hl : l.length ≤ 1000000) (hi : i ≤ l.length) : impl_Notch_80.f l (i : Int) [n] = some (l.take i ++ [n] ++ l.drop i) := by
  unfold impl_Notch_80.f
  rw [if_pos ⟨by omega, by omega, rfl, hl⟩, Int.toNat_natCast]
theorem cutI_ev (s : Bool) (l : List T) (g : G) (a b : Int) (hl : l.length ≤ 1000) (hw : ∀ x ∈ l, wfT x) (hk : kd a = true) (h0 : 0 ≤ b) (h1 : b ≤ 200) : Ev (fun k => impl_cut.f k s l g a b) (s, insT (mkN a b) l, g, validH (insT (mkN a b) l) g) := by
  unfold impl_cut.f
  have hb : (mkN a b).f1 = b := i16_id (by omega) (by omega)
  have hwn := mkN_wf hk h0 h1
  have hwi : ∀ x ∈ insT (mkN a b) l, wfT x := fun x hx => by
    rcases insT_mem l hx with h | h
    · rw [h]; exact hwn
    · exact hw x h
  have hv : Ev (fun k => impl_ValidHalf.f k s (insT (mkN a b) l) g) (validH (insT (mkN a b) l) g) := ValidHalfI_ev s _ g (by rw [insT_length]; unfold maxLen; omega) hwi
  have key : ∀ i : Nat, i ≤ l.length → (∀ x ∈ l.take i, x.f1 ≤ (mkN a b).f1) → Ev (fun k => impl_cut.l0 k a b (i : Int) s l g) (s, insT (mkN a b) l, g, validH (insT (mkN a b) l) g) := by
    intro i hi hp
    obtain ⟨d, hd⟩ : ∃ d, l.length - i = d := ⟨_, rfl⟩
    induction d generalizing i with
    | zero =>
      have : i = l.length := by omega
      refine Ev.step (fun k => by simp only [impl_cut.l0]; rfl) (ev_neg (by omega) (ev_bind0 (cloneN l (by omega)) (ev_bind0 (insN l i (mkN a b) (by omega) hi) ?_)))
      rw [← insT_at (mkN a b) l i hp hi (fun h => by omega)]
      exact Ev.bind hv (Ev.now _)
    | succ d ih =>
      have hlt : i < l.length := by omega
      refine Ev.step (fun k => by simp only [impl_cut.l0]; rfl) (ev_pos (by omega) (ev_pos (by omega) ?_))
      rw [rdT l i hlt, wrap_i16 (hw _ (List.getElem_mem hlt)), wrap_up hlt (by omega)]
      by_cases hc : l[i].f1 ≤ b
      · refine ev_pos hc ?_
        have := ih (i + 1) (by omega) (fun x hx => by
          rw [List.take_add_one, List.getElem?_eq_getElem hlt] at hx
          rcases List.mem_append.1 hx with h | h
          · exact hp x h
          · rw [show x = l[i] by simpa using h, hb]; exact hc) (by omega)
        rw [show ((i + 1 : Nat) : Int) = (i : Int) + 1 by omega] at this
        exact this
      · refine ev_neg hc (ev_bind0 (cloneN l (by omega)) (ev_bind0 (insN l i (mkN a b) (by omega) hi) ?_))
        rw [← insT_at (mkN a b) l i hp hi (fun h => by rw [hb]; omega)]
        exact Ev.bind hv (Ev.now _)
  exact key 0 (by omega) (by simp)
end Go.Proofs.Ytcblnnfodpglaaa.PuCutNRoomFor
