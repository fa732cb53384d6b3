/- For all lists of bytes the law of notches holds: a half is read from its text, a notch is cut just where there is room, and it adds its worth; no condition. -/
import Derived.Test.YtcblnnfodpglaaaGreatDoorMNotchedx0
import Derived.Test.YtcblnnfodpglaaaGreatDoorMNotchedx17
import Derived.Test.YtcblnnfodpglaaaGreatDoorMNotchedx19
import Derived.Test.YtcblnnfodpglaaaGreatDoorMNotchedx2
import Derived.Test.YtcblnnfodpglaaaGreatDoorVNotchedEv
import Derived.Test.YtcblnnfodpglaaaGreatDoorPuAllNotched
namespace Go.Proofs.YtcblnnfodpglaaaGreatDoor.Pure
open Go.RowKit Go.Proofs.YtcblnnfodpglaaaGreatDoor.MNotched Go.Proofs.YtcblnnfodpglaaaGreatDoorW.PrintWords Go.Proofs.YtcblnnfodpglaaaGreatDoorW.PrintLast Go.Proofs.YtcblnnfodpglaaaGreatDoor.Evs Go.Proofs.YtcblnnfodpglaaaGreatDoor.PuGrainNotched Go.Proofs.YtcblnnfodpglaaaGreatDoor.PuFitNotched Go.Proofs.YtcblnnfodpglaaaGreatDoor.PuNotchNotched Go.Proofs.YtcblnnfodpglaaaGreatDoor.PuHalf1Notched Go.Proofs.YtcblnnfodpglaaaGreatDoor.PuPairNotched Go.Proofs.YtcblnnfodpglaaaGreatDoor.PuMisNotched Go.Proofs.YtcblnnfodpglaaaGreatDoor.PuPickBNotched Go.Proofs.YtcblnnfodpglaaaGreatDoor.PuNotFNotched Go.Proofs.YtcblnnfodpglaaaGreatDoor.PuDrawHNotched Go.Proofs.YtcblnnfodpglaaaGreatDoor.PuHasNotched Go.Proofs.YtcblnnfodpglaaaGreatDoor.PuSameRNotched Go.Proofs.YtcblnnfodpglaaaGreatDoor.PuCutN2Notched
open Go.Proofs.YtcblnnfodpglaaaGreatDoor.PuNotchSNotched (sameH sameH_self SameHalfS_ev SameHalfI_ev)
open Go.Proofs.YtcblnnfodpglaaaGreatDoor.PuBytNotched (mkB)
open Go.Proofs.YtcblnnfodpglaaaGreatDoor.PuCutNNotched (mkN insT insT_length insT_mem mkN_wf)
open Go.Proofs.YtcblnnfodpglaaaGreatDoor.PuRoomNotched (rest rest_len roomR RoomI_ev RoomS_ev)
open Go.Proofs.YtcblnnfodpglaaaGreatDoor.PuHTextNotched (htext htextR HTextI_ev side tail_len gnums_len gnums tailT)
open Go.Proofs.YtcblnnfodpglaaaGreatDoor.PuHTripNotched (round_half)
open Go.Proofs.YtcblnnfodpglaaaGreatDoor.PuRHalfNotched (ReadI_ev)
set_option linter.unusedVariables false
set_option linter.unusedSimpArgs false

theorem sum_bd : ∀ l : List T, 0 ≤ sumN l ∧ sumN l ≤ 240000 * l.length
  | [] => by simp [sumN]
  | n :: r => by
    have h := sum_bd r
    have w := wo_bd n.f0
    have e : sumN (n :: r) = wo n.f0 + sumN r := by simp [sumN]
    rw [e, List.length_cons]
    omega
theorem text_len (s : Bool) (l : List T) (g : G) (hv : validN l = true) : (htext s l g).length ≤ 1000 := by
  have h1 := tail_len l (valid_ok1 hv)
  have h2 := valid_len hv
  have h3 : (side s).length ≤ 5 := by cases s <;> simp [side]
  have h4 := gnums_len g 0
  unfold htext
  have h5 : (PuHTextNotched.bytesOf (gnums g 0)).length = 16 := by unfold PuHTextNotched.bytesOf; rw [List.length_map, h4]
  simp only [List.length_append, List.length_cons, h5]
  omega
theorem FnNotched (c m : List Int) (hc : c.length ≤ maxLen) (hbc : ∀ z ∈ c, (Lit.int .u8 z).wf = true) (hm : m.length ≤ maxLen) (hbm : ∀ z ∈ m, (Lit.int .u8 z).wf = true) : ∃ k, laws_FnNotched.f k c m = some true := by
  refine Ev.rounds (r := true) ?_
  unfold laws_FnNotched.f laws_a2Long.f
  by_cases h3 : (c.length : Int) > 3000
  · rw [if_pos h3]
    exact ev_bind0 rfl (ev_pos rfl (Ev.now _))
  rw [if_neg h3]
  by_cases h4 : (m.length : Int) > 3000
  · rw [decide_eq_true h4]
    exact ev_bind0 rfl (ev_pos rfl (Ev.now _))
  rw [decide_eq_false h4]
  refine ev_bind0 rfl (ev_neg (by decide) ?_)
  have byt : ∀ {l : List Int}, ¬ (l.length : Int) > 3000 → (∀ z ∈ l, (Lit.int .u8 z).wf = true) → byteL l := fun h hb => ⟨by omega, fun z hz => by
    have := hb z hz
    simp [Lit.wf, IntKind.min, IntKind.max, IntKind.signed, IntKind.bits] at this
    omega⟩
  have hB := byt h3 hbc
  have hM := byt h4 hbm
  obtain ⟨s, l, g, eh, hv, hw⟩ := half_ev hB
  obtain ⟨kind, ek, hk0, hk1⟩ := at_f hM 0 6 (by omega) (by omega)
  obtain ⟨at_, ea, ha0, ha1⟩ := at_f hM 1 201 (by omega) (by omega)
  have hvN := validH_N hv
  have hL60 := valid_len hvN
  have hLm : l.length ≤ maxLen := by unfold maxLen; omega
  have hk : kd kind = true := decide_eq_true (by omega)
  have hg : okG g = true := by
    unfold validH at hv
    rw [Bool.and_eq_true] at hv
    exact hv.2
  have T1 := HTextI_ev s l g hLm hw
  rw [show htextR s l g = htext s l g from if_pos hv] at T1
  have R1 := ReadI_ev (htext s l g) (by have := text_len s l g hvN; omega)
  rw [round_half s l g hv] at R1
  have RI := RoomI_ev s l g kind hLm hw
  have RS := RoomS_ev s l g kind hLm hw
  have eR : roomR l g kind = (rest l kind 0, 0) := by unfold roomR; rw [if_pos hv, if_pos hk]
  rw [eR] at RI RS
  have S1 := SameHalfI_ev s l g s l g hLm
  have S2 := SameHalfS_ev s l g s l g hLm
  rw [sameH_self] at S1 S2
  have V := ValidHalfI_ev s l g hLm hw
  rw [hv] at V
  have hR := rest_len l kind
  have LS := same_refl (rest l kind 0) (by unfold maxLen; omega)
  refine Ev.bind eh (Ev.bind T1 (Ev.bind R1 (ev_bind0 ek (Ev.bind RI (Ev.bind RS ?_)))))
  refine ev_pos rfl (Ev.bind S1 (ev_pos rfl (Ev.bind S2 (ev_pos rfl (Ev.bind V (ev_pos rfl (ev_pos rfl (ev_pos rfl (Ev.bind LS ?_)))))))))
  refine Ev.step (fun k => by simp only [laws_FnNotched.j0]; rfl) (ev_neg (by decide) ?_)
  refine ev_bind0 ea (Ev.bind (CutNotchI_ev s l g kind at_ hLm hw) (Ev.bind (CutNotchS_ev s l g kind at_ hLm hw) ?_))
  have eV : validH (insT (mkN kind at_) l) g = validN (insT (mkN kind at_) l) := by unfold validH; rw [hg, Bool.and_true]
  have eC : cutH s l g kind at_ = if validN (insT (mkN kind at_) l) = true then (s, insT (mkN kind at_) l, g, 0) else (false, [], zeroG, 4) := by
    unfold cutH
    rw [if_pos hv, if_pos ⟨hk, ha0, by omega⟩, eV]
  have HA := has_ev (rest l kind 0) at_ (by omega)
  have eD : decide (at_ ∈ rest l kind 0) = validN (insT (mkN kind at_) l) := by
    rw [Bool.eq_iff_iff, decide_eq_true_iff, mem_rest]
    exact ⟨fun h => h.2, fun h => ⟨⟨ha0, by omega⟩, h⟩⟩
  rw [eD] at HA
  rw [eC]
  by_cases h2 : validN (insT (mkN kind at_) l) = true
  · rw [if_pos h2]
    rw [h2] at HA
    rw [h2] at eV
    have hn0 : (mkN kind at_).f0 = kind := i8_id (by omega) (by omega)
    have hlen := insT_length (mkN kind at_) l
    have hwI : ∀ x ∈ insT (mkN kind at_) l, wfT x := fun x hx => by
      rcases insT_mem l hx with h | h
      · rw [h]; exact mkN_wf hk ha0 (by omega)
      · exact hw x h
    have hsum := sum_ins (mkN kind at_) l
    rw [hn0] at hsum
    have hne := ins_ne (mkN kind at_) l
    have hmis := mis_ins (mkN kind at_) l
    have hend := lastE_le h2
    generalize insT (mkN kind at_) l = L at h2 eV hlen hwI hsum hne hmis hend HA
    have hLL : L.length ≤ maxLen := by unfold maxLen; omega
    have S3 := SameHalfS_ev s L g s L g hLL
    rw [sameH_self] at S3
    refine ev_pos rfl (Ev.bind S3 (ev_pos rfl (Ev.bind HA ?_)))
    refine Ev.step (fun k => by simp only [laws_FnNotched.j1]; rfl) ?_
    refine ev_neg (by decide) ?_
    refine ev_pos trivial ?_
    have A1 := AmountI_ev s l g hLm hw
    have A2 := AmountI_ev s L g hLL hwI
    have W : impl_WorthOf.f kind = some (wo kind, 0) := by
      unfold impl_WorthOf.f
      rw [kindI, hk]
      simp only [Option.bind_some]
      rw [if_pos trivial, worthI hk]
      rfl
    have F := FitsI_ev true l g false L g 16 hLm hLL hw hwI
    have M := MisI_ev true l g false L g (by omega) (by omega) hw hwI
    have E := EndI_ev s L g hLL hwI
    have pair0 : ∀ w : Int, 0 ≤ w ∧ w ≤ 16 → pairC true l g false L g w = 0 := by
      intro w h
      unfold pairC
      rw [if_pos (show validH l g = true ∧ validH L g = true from ⟨hv, eV⟩), if_pos h, if_pos (show true = true ∧ false = false from ⟨rfl, rfl⟩)]
    have eFit : fitsR true l g false L g 16 = (false, 0) := by
      unfold fitsR
      rw [if_pos (pair0 16 (by omega)), PuNotchSNotched.dec_false (fun h => hne h.symm)]
      rfl
    have eMis : misR true l g false L g = (misFrom l L 0, wornFrom g g 0, 0) := by
      unfold misR
      rw [if_pos (pair0 0 (by omega))]
    rw [show amtR l g = (sumN l, 0) from if_pos hv] at A1
    rw [show amtR L g = (sumN L, 0) from if_pos eV] at A2
    rw [eFit] at F
    rw [eMis] at M
    rw [show endR L g = (lastE L, 0) from if_pos eV] at E
    have b1 := sum_bd l
    have b2 := wo_bd kind
    have hpos : 0 < (misFrom l L 0).length := List.length_pos_iff.2 hmis
    refine Ev.bind A1 (Ev.bind A2 (ev_bind0 W (Ev.bind F (Ev.bind M (Ev.bind E ?_)))))
    refine ev_pos rfl (ev_pos rfl (ev_pos rfl (ev_pos ?_ (ev_pos ?_ (ev_pos rfl (ev_neg (by decide) (ev_pos rfl (ev_pos ?_ (ev_pos rfl (ev_eq (Ev.now _) (decide_eq_true hend)))))))))))
    · rw [wrap_id (by omega) (by omega)]
      exact hsum
    · rw [wrap_id (by omega) (by omega)]
      omega
    · show ((misFrom l L 0).length : Int) > 0
      omega
  · rw [if_neg h2]
    rw [Bool.eq_false_iff.mpr h2] at HA
    have S3 := SameHalfS_ev false [] zeroG false [] zeroG (by unfold maxLen; simp)
    rw [sameH_self] at S3
    refine ev_pos rfl (Ev.bind S3 (ev_pos rfl (Ev.bind HA ?_)))
    refine Ev.step (fun k => by simp only [laws_FnNotched.j1]; rfl) ?_
    refine ev_neg (by decide) ?_
    exact ev_neg (by decide) (Ev.now _)
end Go.Proofs.YtcblnnfodpglaaaGreatDoor.Pure
