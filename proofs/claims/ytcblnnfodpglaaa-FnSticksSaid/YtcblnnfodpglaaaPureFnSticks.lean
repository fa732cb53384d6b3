/- For all lists of bytes the law of sticks holds: the halves of a stick fit and tell its amount, and a grain that is worn fits just with wear; no condition. -/
import Derived.Test.YtcblnnfodpglaaaMSticksx0
import Derived.Test.YtcblnnfodpglaaaMSticksx13
import Derived.Test.YtcblnnfodpglaaaMSticksx7
import Derived.Test.YtcblnnfodpglaaaVSticksEv
import Derived.Test.YtcblnnfodpglaaaPuGrainSticks
import Derived.Test.YtcblnnfodpglaaaPuFitSticks
import Derived.Test.YtcblnnfodpglaaaPuNotchSticks
import Derived.Test.YtcblnnfodpglaaaPuNotchSSticks
import Derived.Test.YtcblnnfodpglaaaPuHalf1Sticks
import Derived.Test.YtcblnnfodpglaaaPuForSticks
import Derived.Test.YtcblnnfodpglaaaPuGreSticks
import Derived.Test.YtcblnnfodpglaaaPuPairSticks
import Derived.Test.YtcblnnfodpglaaaPuMisSticks
import Derived.Test.YtcblnnfodpglaaaPuCutSticks
import Derived.Test.YtcblnnfodpglaaaPuWearSticks
import Derived.Test.YtcblnnfodpglaaaPuDrawSticks
import Derived.Test.YtcblnnfodpglaaaPuDrawASticks
import Derived.Test.YtcblnnfodpglaaaPuSameISticks
namespace Go.Proofs.Ytcblnnfodpglaaa.Pure
open Go.RowKit Go.Proofs.Ytcblnnfodpglaaa.MSticks Go.Proofs.YtcblnnfodpglaaaW.PrintWords Go.Proofs.YtcblnnfodpglaaaW.PrintLast Go.Proofs.Ytcblnnfodpglaaa.Evs Go.Proofs.Ytcblnnfodpglaaa.PuGrainSticks Go.Proofs.Ytcblnnfodpglaaa.PuFitSticks Go.Proofs.Ytcblnnfodpglaaa.PuNotchSticks Go.Proofs.Ytcblnnfodpglaaa.PuHalf1Sticks Go.Proofs.Ytcblnnfodpglaaa.PuForSticks Go.Proofs.Ytcblnnfodpglaaa.PuGreSticks Go.Proofs.Ytcblnnfodpglaaa.PuPairSticks Go.Proofs.Ytcblnnfodpglaaa.PuMisSticks Go.Proofs.Ytcblnnfodpglaaa.PuCutSticks Go.Proofs.Ytcblnnfodpglaaa.PuWearSticks Go.Proofs.Ytcblnnfodpglaaa.PuDrawSticks Go.Proofs.Ytcblnnfodpglaaa.PuDrawASticks
open Go.Proofs.Ytcblnnfodpglaaa.PuNotchSSticks (sameH sameH_self SameHalfS_ev)
set_option linter.unusedVariables false
set_option linter.unusedSimpArgs false

theorem sg_opp (g : G) (hg : okG g = true) (q : Nat) (hq : q < 16) : sg g (oppG g) q = 0 := by
  have h := (okG_iff g).1 hg q hq
  unfold sg
  rw [gv_opp g q hq, i8_id (x := -(gv g q)) (by omega) (by omega), i8_id (by omega) (by omega)]
  omega
theorem ok_opp (g : G) (hg : okG g = true) : okG (oppG g) = true := by
  refine (okG_iff _).2 fun q hq => ?_
  have h := (okG_iff g).1 hg q hq
  rw [gv_opp g q hq, i8_id (by omega) (by omega)]
  omega
theorem worn_nil (x y : G) (h : ∀ q, q < 16 → sg x y q = 0) : wornFrom x y 0 = [] := by
  unfold wornFrom
  rw [List.filter_eq_nil_iff.2]
  · rfl
  · intro q hq
    rw [List.mem_range'_1] at hq
    simp [h q (by omega)]
theorem worn_one (x y : G) (p : Nat) (hp : p < 16) (h : ∀ q, q < 16 → (sg x y q = 0 ↔ q ≠ p)) : ∀ i, i ≤ 16 → wornFrom x y i = if i ≤ p then [(p : Int)] else [] := by
  intro i hi
  obtain ⟨d, hd⟩ : ∃ d, 16 - i = d := ⟨_, rfl⟩
  induction d generalizing i with
  | zero =>
    have : i = 16 := by omega
    subst this
    rw [wornFrom_end, if_neg (by omega)]
  | succ d ih =>
    rw [wornFrom_step x y i (by omega), ih (i + 1) (by omega) (by omega)]
    by_cases e : i = p
    · subst e
      rw [if_neg (fun h0 => (h i hp).1 h0 rfl), if_neg (by omega), if_pos (Nat.le_refl _)]
    · rw [if_pos ((h i (by omega)).2 e)]
      by_cases hl : i ≤ p
      · rw [if_pos hl, if_pos (by omega)]
      · rw [if_neg hl, if_neg (by omega)]
theorem mis_self (l : List T) : misFrom l l 0 = [] := by
  unfold misFrom
  rw [List.filter_eq_nil_iff.2]
  · rfl
  · intro q _
    rw [PuNotchSSticks.dec_false (fun h => h rfl)]
    decide
theorem FnSticks (c m : List Int) (hc : c.length ≤ maxLen) (hbc : ∀ z ∈ c, (Lit.int .u8 z).wf = true) (hm : m.length ≤ maxLen) (hbm : ∀ z ∈ m, (Lit.int .u8 z).wf = true) : ∃ k, laws_FnSticks.f k c m = some true := by
  refine Ev.rounds (r := true) ?_
  unfold laws_FnSticks.f laws_a2Long.f
  by_cases h3 : (c.length : Int) > 3000
  · rw [if_pos h3]
    exact ev_bind0 rfl (ev_pos rfl (Ev.now _))
  rw [if_neg h3]
  by_cases h4 : (m.length : Int) > 3000
  · rw [decide_eq_true h4]
    exact ev_bind0 rfl (ev_pos rfl (Ev.now _))
  rw [decide_eq_false h4]
  refine ev_bind0 rfl (ev_neg (by decide) ?_)
  have byt : ∀ {l : List Int}, ¬ (l.length : Int) > 3000 → (∀ z ∈ l, (Lit.int .u8 z).wf = true) → byteL l := fun h hb => ⟨by omega, fun z hz => by
    have := hb z hz
    simp [Lit.wf, IntKind.min, IntKind.max, IntKind.signed, IntKind.bits] at this
    omega⟩
  have hB := byt h3 hbc
  have hM := byt h4 hbm
  obtain ⟨x, ex, x0, x1⟩ := amount_drawn hB
  obtain ⟨g, eg, hg⟩ := grain_drawn hM
  refine ev_bind0 ex (Ev.bind eg (Ev.bind (CutI_ev x g) (Ev.bind (CutS_ev x g) (ev_pos rfl ?_))))
  obtain ⟨l1, l2⟩ := cutR_len x g
  have S1 := SameHalfS_ev (cutR x g).1 (cutR x g).2.1 (cutR x g).2.2.1 (cutR x g).1 (cutR x g).2.1 (cutR x g).2.2.1 (by unfold maxLen; omega)
  have S2 := SameHalfS_ev (cutR x g).2.2.2.1 (cutR x g).2.2.2.2.1 (cutR x g).2.2.2.2.2.1 (cutR x g).2.2.2.1 (cutR x g).2.2.2.2.1 (cutR x g).2.2.2.2.2.1 (by unfold maxLen; omega)
  rw [sameH_self] at S1 S2
  refine Ev.bind S1 (ev_pos rfl (Ev.bind S2 ?_))
  refine Ev.step (fun k => by simp only [laws_FnSticks.j0]; rfl) (ev_neg (by decide) ?_)
  have eF : forR x = if validN (gre 6 x 0) = true then (gre 6 x 0, 0) else ([], 3) := by
    unfold forR
    rw [if_pos (by omega)]
  by_cases hv : validN (gre 6 x 0) = true
  · rw [if_pos hv] at eF
    have eC : cutR x g = (true, gre 6 x 0, g, false, gre 6 x 0, oppG g, 0) := by
      unfold cutR
      rw [if_pos hg, eF]
      rfl
    rw [eC]
    have hL60 := valid_len hv
    have hwf := gre_wfT 6 x 0
    have hsum := gre_total x x0
    generalize gre 6 x 0 = L at hv hL60 hwf hsum
    have hLm : L.length ≤ maxLen := by unfold maxLen; omega
    have go := ok_opp g hg
    have vA : validH L g = true := by unfold validH; rw [hv, hg]; rfl
    have vB : validH L (oppG g) = true := by unfold validH; rw [hv, go]; rfl
    have F := FitsI_ev true L g false L (oppG g) 0 hLm hLm hwf hwf
    have A1 := AmountI_ev true L g hLm hwf
    have A2 := AmountI_ev false L (oppG g) hLm hwf
    have M := MisI_ev true L g false L (oppG g) (by omega) (by omega) hwf hwf
    have O := OppI_ev g
    have V1 := ValidHalfI_ev true L g hLm hwf
    have V2 := ValidHalfI_ev false L (oppG g) hLm hwf
    have w0 := worn_nil g (oppG g) (sg_opp g hg)
    have fit0 : fitG g (oppG g) 0 = true := by
      unfold fitG
      rw [w0, (allFrom_iff _ _).2 (fun q _ hq => by unfold fit1; rw [sg_opp g hg q hq]; rfl)]
      rfl
    have pair0 : ∀ y : G, okG y = true → pairC true L g false L y 0 = 0 := by
      intro y hy
      have vy : validH L y = true := by unfold validH; rw [hv, hy]; rfl
      unfold pairC
      rw [if_pos (show validH L g = true ∧ validH L y = true from ⟨vA, vy⟩), if_pos (by omega), if_pos (show true = true ∧ false = false from ⟨rfl, rfl⟩)]
    have eFit : fitsR true L g false L (oppG g) 0 = (true, 0) := by
      unfold fitsR
      rw [if_pos (pair0 _ go), fit0, PuNotchSSticks.dec_true rfl]
      rfl
    have eAm1 : amtR L g = (x, 0) := by unfold amtR; rw [if_pos vA, hsum]
    have eAm2 : amtR L (oppG g) = (x, 0) := by unfold amtR; rw [if_pos vB, hsum]
    have eMis : ∀ y : G, okG y = true → misR true L g false L y = ([], wornFrom g y 0, 0) := by
      intro y hy
      unfold misR
      rw [if_pos (pair0 y hy), mis_self]
    rw [eFit] at F
    rw [eAm1] at A1
    rw [eAm2] at A2
    rw [eMis _ go, w0] at M
    rw [if_pos hg] at O
    rw [vA] at V1
    rw [vB] at V2
    refine ev_pos rfl (Ev.bind F (Ev.bind A1 (Ev.bind A2 (Ev.bind M (Ev.bind O ?_)))))
    refine ev_pos rfl (ev_pos rfl (ev_pos rfl (ev_pos rfl (ev_pos rfl (ev_pos rfl (ev_pos rfl (ev_pos rfl (ev_pos rfl (ev_pos rfl (ev_pos rfl (Ev.bind V1 (ev_pos rfl (Ev.bind V2 ?_)))))))))))))
    refine Ev.step (fun k => by simp only [laws_FnSticks.j1]; rfl) (ev_neg (by decide) ?_)
    obtain ⟨p, ep, hp0, hp1⟩ := at_f hM 0 16 (by omega) (by omega)
    obtain ⟨b, eb, hb0, hb1⟩ := at_f hM 1 2 (by omega) (by omega)
    have hby : wrap64 (wrap64 (2 * b) - 1) = 2 * b - 1 := by rw [wrap_id (x := 2 * b) (by omega) (by omega), wrap_id (by omega) (by omega)]
    refine ev_bind0 ep (ev_bind0 eb ?_)
    rw [hby]
    refine Ev.bind (WearI_ev (oppG g) p (2 * b - 1)) ?_
    obtain ⟨P, rfl⟩ : ∃ P : Nat, p = (P : Int) := ⟨p.toNat, by omega⟩
    have hP : P < 16 := by omega
    have hPo := (okG_iff _).1 go P hP
    have ev1 : IntKind.i8.wrap (2 * b - 1) = 2 * b - 1 := i8_id (by omega) (by omega)
    have ey : IntKind.i8.wrap (gv (oppG g) P + (2 * b - 1)) = gv (oppG g) P + (2 * b - 1) := i8_id (by omega) (by omega)
    have eW : wearF (oppG g) (P : Int) (2 * b - 1) = if okG (Arr.vst (oppG g) (P : Int) (gv (oppG g) P + (2 * b - 1))) = true then (Arr.vst (oppG g) (P : Int) (gv (oppG g) P + (2 * b - 1)), 0) else (zeroG, 4) := by
      unfold wearF
      rw [if_pos go, if_pos ⟨by omega, by omega, by omega⟩, vrd_n, ev1, ey]
    rw [eW]
    by_cases hy : okG (Arr.vst (oppG g) (P : Int) (gv (oppG g) P + (2 * b - 1))) = true
    · rw [if_pos hy]
      have hyv : ∀ q, q < 16 → gv (Arr.vst (oppG g) (P : Int) (gv (oppG g) P + (2 * b - 1))) q = if q = P then gv (oppG g) P + (2 * b - 1) else gv (oppG g) q := fun q _ => gv_set (oppG g) P q _ hP
      generalize Arr.vst (oppG g) (P : Int) (gv (oppG g) P + (2 * b - 1)) = y at hy hyv
      have hsg : ∀ q, q < 16 → sg g y q = if q = P then 2 * b - 1 else 0 := by
        intro q hq
        have h := (okG_iff g).1 hg q hq
        have ho : gv (oppG g) q = -(gv g q) := by rw [gv_opp g q hq, i8_id (by omega) (by omega)]
        unfold sg
        rw [hyv q hq]
        by_cases e : q = P
        · rw [if_pos e, if_pos e, ← e, ho, i8_id (by omega) (by omega)]
          omega
        · rw [if_neg e, if_neg e, ho, i8_id (by omega) (by omega)]
          omega
      have hw1 : wornFrom g y 0 = [(P : Int)] := by
        have := worn_one g y P hP (fun q hq => by
          rw [hsg q hq]
          by_cases e : q = P
          · rw [if_pos e]; constructor
            · intro h; omega
            · intro h; exact absurd e h
          · rw [if_neg e]; exact ⟨fun _ => e, fun _ => rfl⟩) 0 (by omega)
        rw [this, if_pos (by omega)]
      have hall : allFrom (fit1 g y) 0 = true := (allFrom_iff _ _).2 (fun q _ hq => by
        unfold fit1
        rw [hsg q hq]
        by_cases e : q = P
        · rw [if_pos e, decide_eq_true (by omega), decide_eq_true (by omega)]; rfl
        · rw [if_neg e]; rfl)
      have f0 : fitR g y 0 = (false, 0) := by
        unfold fitR fitG
        rw [if_pos ⟨hg, hy⟩, if_pos (by omega), hall, hw1]
        rfl
      have f1 : fitR g y 1 = (true, 0) := by
        unfold fitR fitG
        rw [if_pos ⟨hg, hy⟩, if_pos (by omega), hall, hw1]
        rfl
      have F0 := FitsGrainI_ev g y 0
      have F1 := FitsGrainI_ev g y 1
      rw [f0] at F0
      rw [f1] at F1
      have M2 := MisI_ev true L g false L y (by omega) (by omega) hwf hwf
      rw [eMis y hy, hw1] at M2
      have SS := PuSameISticks.l00Same_ev [(P : Int)] [(P : Int)] (by unfold maxLen; simp)
      rw [PuDebtSticks.dec_true rfl] at SS
      refine ev_pos rfl (Ev.bind F0 (Ev.bind F1 (Ev.bind M2 (ev_pos rfl (ev_neg (by decide) (ev_pos rfl (ev_pos rfl (ev_pos rfl ?_))))))))
      exact Ev.bind (Ev.bind SS (Ev.now _)) (Ev.now _)
    · rw [if_neg hy]
      exact ev_neg (by decide) (Ev.now _)
  · rw [if_neg hv] at eF
    have eC : cutR x g = (false, [], (Vector.replicate 16 0 : Vector Int 16), false, [], (Vector.replicate 16 0 : Vector Int 16), 3) := by
      unfold cutR
      rw [if_pos hg, eF]
      rfl
    rw [eC]
    exact ev_neg (by decide) (Ev.now _)
end Go.Proofs.Ytcblnnfodpglaaa.Pure
