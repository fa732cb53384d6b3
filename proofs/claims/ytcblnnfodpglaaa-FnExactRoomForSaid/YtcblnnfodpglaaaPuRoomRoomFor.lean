/- The places where there is room for a notch, on both sides. -/
import Derived.Test.YtcblnnfodpglaaaMRoomForx0
import Derived.Test.YtcblnnfodpglaaaMRoomForx4
import Derived.Test.YtcblnnfodpglaaaMRoomForx7
import Derived.Test.YtcblnnfodpglaaaVRoomForEv
import Derived.Test.YtcblnnfodpglaaaPuGrainRoomFor
import Derived.Test.YtcblnnfodpglaaaPuNotchRoomFor
import Derived.Test.YtcblnnfodpglaaaPuCutNRoomFor
namespace Go.Proofs.Ytcblnnfodpglaaa.PuRoomRoomFor
open Go.RowKit Go.Proofs.Ytcblnnfodpglaaa.MRoomFor Go.Proofs.YtcblnnfodpglaaaW.PrintWords Go.Proofs.YtcblnnfodpglaaaW.PrintLast Go.Proofs.Ytcblnnfodpglaaa.Evs Go.Proofs.Ytcblnnfodpglaaa.PuGrainRoomFor Go.Proofs.Ytcblnnfodpglaaa.PuNotchRoomFor Go.Proofs.Ytcblnnfodpglaaa.PuCutNRoomFor
set_option linter.unusedVariables false
set_option linter.unusedSimpArgs false
def rest (l : List T) (a : Int) (i : Nat) : List Int := ((List.range' i (201 - i)).filter (fun j : Nat => validN (insT (mkN a (j : Int)) l))).map (fun j : Nat => (j : Int))
theorem rest_step (l : List T) (a : Int) (i : Nat) (h : i < 201) : rest l a i = if validN (insT (mkN a (i : Int)) l) = true then (i : Int) :: rest l a (i + 1) else rest l a (i + 1) := by
  unfold rest
  rw [show 201 - i = (201 - (i + 1)) + 1 by omega, List.range'_succ, List.filter_cons]
  split <;> simp
theorem rest_end (l : List T) (a : Int) : rest l a 201 = [] := by simp [rest]
theorem rest_len (l : List T) (a : Int) : (rest l a 0).length ≤ 201 := by
  unfold rest
  rw [List.length_map]
  exact Nat.le_trans (List.length_filter_le _ _) (by simp)
def roomR (l : List T) (g : G) (a : Int) : List Int × Int := if validH l g = true then (if kd a = true then (rest l a 0, 0) else ([], 2)) else ([], 1)
theorem roomR_len (l : List T) (g : G) (a : Int) : (roomR l g a).1.length ≤ 201 := by
  unfold roomR
  split
  · split
    · exact rest_len l a
    · simp
  · simp
theorem ins_wf {l : List T} (hw : ∀ n ∈ l, wfT n) {a : Int} (hk : kd a = true) {i : Nat} (hi : i < 201) : ∀ n ∈ insT (mkN a (i : Int)) l, wfT n := fun x hx => by
  rcases insT_mem l hx with h | h
  · rw [h]; exact mkN_wf hk (by omega) (by omega)
  · exact hw x h
theorem askedS_ev (s : Bool) (l : List T) (g : G) (a : Int) (hl : l.length ≤ maxLen) (hw : ∀ n ∈ l, wfT n) : Ev (fun k => spec_l01Asked.f k s l g a) (if validH l g = true then (if kd a = true then 0 else 2) else 1) := by
  unfold spec_l01Asked.f
  refine Ev.bind (okS_ev s l g hl hw) ?_
  by_cases hv : validH l g = true
  · refine ev_pos hv (ev_bind0 (kindS a) ?_)
    by_cases hk : kd a = true
    · exact ev_pos hk (ev_eq (Ev.now _) (by rw [if_pos hv, if_pos hk]))
    · exact ev_neg hk (ev_eq (Ev.now _) (by rw [if_pos hv, if_neg hk]))
  · exact ev_neg hv (ev_eq (Ev.now _) (if_neg hv).symm)
theorem RoomS_ev (s : Bool) (l : List T) (g : G) (a : Int) (hl : l.length ≤ maxLen) (hw : ∀ n ∈ l, wfT n) : Ev (fun k => spec_RoomFor.f k s l g a) (roomR l g a) := by
  unfold spec_RoomFor.f
  refine Ev.bind (askedS_ev s l g a hl hw) ?_
  unfold roomR
  by_cases hv : validH l g = true
  · have hlen := valid_len (validH_N hv)
    rw [if_pos hv, if_pos hv]
    by_cases hk : kd a = true
    · rw [if_pos hk, if_pos hk]
      refine ev_pos rfl ?_
      have key := ev_forI (n := 201) (G := fun k (q : List Int) i => spec_RoomFor.l0 k a q i s l g) (F := fun q i => (q ++ rest l a i, (0 : Int))) (I := fun q i => q.length ≤ i) ?_ ?_ 0 (by omega) [] (by simp)
      · simpa using key
      · intro i hi ih q hI
        refine Ev.step (fun k => by simp only [spec_RoomFor.l0]; rfl) (ev_pos (by omega) (Ev.bind (cutS_ev l a i (by omega)) (Ev.bind (notchesS_ev _ (by rw [insT_length]; unfold maxLen; omega) (ins_wf hw hk hi)) ?_)))
        rw [wrap_up hi (by omega), rest_step l a i hi]
        by_cases h : validN (insT (mkN a (i : Int)) l) = true
        · refine ev_pos h (ev_pos (by omega) (ev_eq (ih (q ++ [(i : Int)]) (by simp; omega)) ?_))
          rw [if_pos h]; simp
        · refine ev_neg h (ev_eq (ih q (by omega)) ?_)
          rw [if_neg h]
      · intro q hI
        refine Ev.step (fun k => by simp only [spec_RoomFor.l0]; rfl) (ev_neg (by omega) (ev_eq (Ev.now _) ?_))
        rw [rest_end]; simp
    · rw [if_neg hk, if_neg hk]
      exact ev_neg (by decide) (Ev.now _)
  · rw [if_neg hv, if_neg hv]
    exact ev_neg (by decide) (Ev.now _)
theorem RoomI_ev (s : Bool) (l : List T) (g : G) (a : Int) (hl : l.length ≤ maxLen) (hw : ∀ n ∈ l, wfT n) : Ev (fun k => impl_RoomFor.f k s l g a) (roomR l g a) := by
  unfold impl_RoomFor.f
  refine Ev.bind (ValidHalfI_ev s l g hl hw) ?_
  unfold roomR
  by_cases hv : validH l g = true
  · have hlen := valid_len (validH_N hv)
    have hg : okG g = true := by
      unfold validH at hv
      exact (Bool.and_eq_true_iff.1 hv).2
    refine ev_pos hv (ev_bind0 (kindI a) ?_)
    rw [if_pos hv]
    by_cases hk : kd a = true
    · refine ev_pos hk ?_
      rw [if_pos hk]
      refine Ev.bind (f := fun _ x => some (x, (0 : Int))) (r := (rest l a 0, (0 : Int))) (a := rest l a 0) ?_ (Ev.now _)
      unfold impl_room.f
      have key := ev_forI (n := 201) (G := fun k (q : List Int) i => impl_room.l0 k a q i s l g) (F := fun q i => q ++ rest l a i) (I := fun q i => q.length ≤ i) ?_ ?_ 0 (by omega) [] (by simp)
      · simpa using key
      · intro i hi ih q hI
        refine Ev.step (fun k => by simp only [impl_room.l0]; rfl) (ev_pos (by omega) (Ev.bind (cutI_ev s l g a i (by omega) hw hk (by omega) (by omega)) ?_))
        rw [wrap_up hi (by omega), rest_step l a i hi]
        have e : validH (insT (mkN a (i : Int)) l) g = validN (insT (mkN a (i : Int)) l) := by unfold validH; rw [hg, Bool.and_true]
        by_cases h : validN (insT (mkN a (i : Int)) l) = true
        · refine ev_pos (e.trans h) (ev_pos (by omega) (ev_eq (ih (q ++ [(i : Int)]) (by simp; omega)) ?_))
          rw [if_pos h]; simp
        · refine ev_neg (by rw [← e] at h; exact h) (ev_eq (ih q (by omega)) ?_)
          rw [if_neg h]
      · intro q hI
        refine Ev.step (fun k => by simp only [impl_room.l0]; rfl) (ev_neg (by omega) (ev_eq (Ev.now _) ?_))
        rw [rest_end]; simp
    · rw [if_neg hk]
      exact ev_neg hk (Ev.now _)
  · rw [if_neg hv]
    exact ev_neg hv (Ev.now _)
end Go.Proofs.Ytcblnnfodpglaaa.PuRoomRoomFor
