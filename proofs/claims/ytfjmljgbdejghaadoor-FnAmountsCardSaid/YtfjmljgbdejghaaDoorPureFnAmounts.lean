/- For all lists of bytes the law of amounts holds: amounts are read from their texts, notches for an amount are worth it and the fewest of each kind; no condition. -/
import Derived.Test.YtfjmljgbdejghaaDoorMAmountsx0
import Derived.Test.YtfjmljgbdejghaaDoorMAmountsx3
import Derived.Test.YtfjmljgbdejghaaDoorMAmountsx7
import Derived.Test.YtfjmljgbdejghaaDoorMAmountsx8
import Derived.Test.YtfjmljgbdejghaaDoorEv
import Derived.Test.YtfjmljgbdejghaaDoorPuGrainAmounts
import Derived.Test.YtfjmljgbdejghaaDoorPuNotchAmounts
import Derived.Test.YtfjmljgbdejghaaDoorPuNotchSAmounts
import Derived.Test.YtfjmljgbdejghaaDoorPuHalf1Amounts
import Derived.Test.YtfjmljgbdejghaaDoorPuForAmounts
import Derived.Test.YtfjmljgbdejghaaDoorPuBytAmounts
import Derived.Test.YtfjmljgbdejghaaDoorPuReadAmounts
import Derived.Test.YtfjmljgbdejghaaDoorPuDrawAmounts
namespace Go.Proofs.YtfjmljgbdejghaaDoor.Pure
open Go.RowKit Go.Proofs.YtfjmljgbdejghaaDoor.MAmounts Go.Proofs.YtfjmljgbdejghaaDoorW.PrintWords Go.Proofs.YtfjmljgbdejghaaDoorW.PrintLast Go.Proofs.YtfjmljgbdejghaaDoor.Evs Go.Proofs.YtfjmljgbdejghaaDoor.PuGrainAmounts Go.Proofs.YtfjmljgbdejghaaDoor.PuNotchAmounts Go.Proofs.YtfjmljgbdejghaaDoor.PuHalf1Amounts Go.Proofs.YtfjmljgbdejghaaDoor.PuForAmounts Go.Proofs.YtfjmljgbdejghaaDoor.PuDrawAmounts
open Go.Proofs.YtfjmljgbdejghaaDoor.PuBytAmounts (mkB)
open Go.Proofs.YtfjmljgbdejghaaDoor.PuReadAmounts (readI readI_some readA_amt implRead_ev)
open Go.Proofs.YtfjmljgbdejghaaDoor.PuAmtAmounts (implText_ev amtT amtL amtL_len)
set_option linter.unusedVariables false
set_option linter.unusedSimpArgs false

theorem run_sum (m : Nat) (hm : m ≤ 5) : ∀ (c : Nat) (a : Int), sumN (run m a c) = c * wo m
  | 0, a => by simp [run, sumN]
  | c + 1, a => by
    have e : sumN (run m a (c + 1)) = wo (nT m a).f0 + sumN (run m (a + (wd m + 1)) c) := rfl
    rw [e, run_sum m hm c, nT_f0 m a hm]
    rw [show ((c + 1 : Nat) : Int) = (c : Int) + 1 by omega, Int.add_mul]; omega
theorem run_count (q : Int) (m : Nat) (hm : m ≤ 5) : ∀ (c : Nat) (a : Int), countN q (run m a c) = if (m : Int) = q then (c : Int) else 0
  | 0, a => by simp [run, countN]
  | c + 1, a => by
    have e : countN q (run m a (c + 1)) = (if (nT m a).f0 = q then 1 else 0) + countN q (run m (a + (wd m + 1)) c) := countN_drop q (nT m a :: run m (a + (wd m + 1)) c) 0 (by simp)
    rw [e, run_count q m hm c, nT_f0 m a hm]
    split <;> omega
theorem sum_app (a b : List T) : sumN (a ++ b) = sumN a + sumN b := by simp [sumN]
theorem count_app (q : Int) (a b : List T) : countN q (a ++ b) = countN q a + countN q b := by simp [countN, List.countP_append]
theorem gre_sum : ∀ (m : Nat) (x a : Int), m ≤ 6 → 0 ≤ x → sumN (gre m x a) + (if m = 0 then x else 0) = (if m = 0 then x else x)
  | 0, x, a, _, _ => by simp [gre, sumN]
  | m + 1, x, a, hm, h0 => by
    have hp := wo_pos (m : Int) (by omega) (by omega)
    have hd : 0 ≤ x / wo m := Int.ediv_nonneg h0 (by omega)
    have hr : 0 ≤ x % wo m := Int.emod_nonneg _ (by omega)
    have := gre_sum m (x % wo m) (a + (x / wo m) * (wd m + 1)) (by omega) hr
    simp only [gre]
    rw [sum_app, run_sum m (by omega), if_neg (by omega), if_neg (by omega)]
    have e : ((x / wo m).toNat : Int) = x / wo m := by omega
    rw [e]
    have hdm := Int.mul_ediv_add_emod x (wo m)
    rw [Int.mul_comm] at hdm
    by_cases h : m = 0
    · subst h
      have w0 : wo ((0 : Nat) : Int) = 1 := rfl
      rw [w0] at hdm ⊢
      simp only [gre, sumN]
      simp
    · rw [if_neg h, if_neg h] at this
      omega
theorem gre_total (x : Int) (h : 0 ≤ x) : sumN (gre 6 x 0) = x := by
  have := gre_sum 6 x 0 (by omega) h
  simpa using this
theorem gre_none (q : Int) : ∀ (m : Nat) (x a : Int), m ≤ 6 → (m : Int) ≤ q → countN q (gre m x a) = 0
  | 0, x, a, _, _ => by simp [gre, countN]
  | m + 1, x, a, hm, hq => by
    simp only [gre]
    rw [count_app, run_count q m (by omega), if_neg (by omega), gre_none q m _ _ (by omega) (by omega)]
    rfl
theorem gre_lt (q : Nat) : ∀ (m : Nat) (x a : Int), m ≤ 6 → q + 1 < m → 0 ≤ x → countN q (gre m x a) * wo q < wo (q + 1 : Nat)
  | 0, x, a, _, h, _ => by omega
  | m + 1, x, a, hm, hq, h0 => by
    have hp := wo_pos (m : Int) (by omega) (by omega)
    have hr : 0 ≤ x % wo m := Int.emod_nonneg _ (by omega)
    have hlt : x % wo m < wo m := Int.emod_lt_of_pos _ (by omega)
    simp only [gre]
    rw [count_app, run_count q m (by omega), if_neg (by omega), Int.zero_add]
    by_cases h : q + 1 < m
    · exact gre_lt q m _ _ (by omega) h hr
    · have e : m = q + 1 := by omega
      subst e
      simp only [gre]
      rw [count_app, run_count q q (by omega), if_pos rfl, gre_none q q _ _ (by omega) (by omega), Int.add_zero]
      have hq := wo_pos (q : Int) (by omega) (by omega)
      have hd : 0 ≤ x % wo ((q + 1 : Nat) : Int) / wo q := Int.ediv_nonneg hr (by omega)
      have e2 : (((x % wo ((q + 1 : Nat) : Int) / wo q).toNat : Nat) : Int) = x % wo ((q + 1 : Nat) : Int) / wo q := by omega
      rw [e2]
      have := Int.ediv_mul_le (x % wo ((q + 1 : Nat) : Int)) (show wo q ≠ 0 by omega)
      omega
theorem wos : wo ((0 : Nat) : Int) = 1 ∧ wo ((1 : Nat) : Int) = 12 ∧ wo ((2 : Nat) : Int) = 240 ∧ wo ((3 : Nat) : Int) = 4800 := ⟨rfl, rfl, rfl, rfl⟩
theorem worthOf (k : Int) (h : kd k = true) : impl_WorthOf.f k = some (wo k, 0) := by
  unfold impl_WorthOf.f
  rw [kindI, Option.bind_some, if_pos h, worthI h]; rfl
theorem widthOf (k : Int) (h : kd k = true) : impl_WidthOf.f k = some (wd k, 0) := by
  unfold impl_WidthOf.f
  rw [kindI, Option.bind_some, if_pos h, widthI h]; rfl
theorem chain_desc (l : List T) (h : validN l = true) (i : Nat) (h0 : 0 < i) (hi : i < l.length) : l[i].f0 ≤ (l[i - 1]'(by omega)).f0 := by
  unfold validN at h
  simp only [Bool.and_eq_true, decide_eq_true_eq] at h
  have key : ∀ j, j ≤ l.length → chain (prev l j) (l.drop j) = true := by
    intro j
    induction j with
    | zero => intro _; simpa [prev] using h.2
    | succ j ih =>
      intro hj
      have := ih (by omega)
      rw [chain_step l j (by omega)] at this
      simp only [Bool.and_eq_true] at this
      exact this.2
  have := key i (by omega)
  rw [chain_step l i hi, prev_pos l i h0 hi] at this
  simp only [Bool.and_eq_true] at this
  exact (of_decide_eq_true this.1.2).1
theorem last_loop (x : Int) (l : List T) (hx : 0 ≤ x) (hl : l = gre 6 x 0) (hv : validN l = true) (hw : ∀ n ∈ l, wfT n) : Ev (fun k => laws_FnAmounts.l0 k x l 0 0) true := by
  have h1 := valid_ok1 hv
  have h60 := valid_len hv
  have hs : sumN l = x := by rw [hl]; exact gre_total x hx
  have key := ev_forI (σ := Int) (n := l.length) (G := fun k s i => laws_FnAmounts.l0 k x l s i) (F := fun s i => true) (I := fun s i => s + sumN (l.drop i) = x ∧ 0 ≤ s ∧ s ≤ 240000 * i) ?_ ?_ 0 (by omega) 0 (by simp [hs])
  · exact key
  · rintro i hi ih s ⟨hI, hs0, hs1⟩
    have hk := h1 l[i] (List.getElem_mem hi)
    have hkd := ok1_kd hk
    have hwf := hw l[i] (List.getElem_mem hi)
    have hok := of_decide_eq_true hk
    have hwp := wd_pos l[i].f0 hok.1 hok.2.1
    have hob := wo_bd l[i].f0
    refine Ev.step (fun k => by simp only [laws_FnAmounts.l0]; rfl) ?_
    refine ev_pos (by omega) (ev_pos (by omega) ?_)
    rw [rdT l i hi, wrap_i8 hwf, wrap_up hi (by omega)]
    refine ev_bind0 (worthOf _ hkd) (ev_bind0 (widthOf _ hkd) (ev_pos rfl (ev_pos rfl (ev_neg (by dsimp only; omega) ?_))))
    dsimp only
    rw [wrap_id (x := s + wo l[i].f0) (by omega) (by omega)]
    have nx := ih (s + wo l[i].f0) ⟨by rw [sumN_drop l i hi] at hI; omega, by omega, by omega⟩
    by_cases h0 : (i : Int) > 0
    · refine ev_pos h0 ?_
      have hpi := rdT l (i - 1) (by omega)
      rw [wrap_id (x := (i : Int) - 1) (by omega) (by omega), show (i : Int) - 1 = ((i - 1 : Nat) : Int) by omega, hpi]
      have hd := chain_desc l hv i (by omega) hi
      exact ev_pos (by omega) (ev_pos (by omega) (ev_neg (by omega) nx))
    · exact ev_neg h0 nx
  · rintro s ⟨hI, hs0, hs1⟩
    rw [List.drop_length] at hI
    have hsx : s = x := by simpa [sumN] using hI
    refine Ev.step (fun k => by simp only [laws_FnAmounts.l0]; rfl) ?_
    refine ev_neg (by omega) ?_
    have hm : l.length ≤ maxLen := by unfold maxLen; omega
    have hH : validH l (Vector.replicate 16 0 : Vector Int 16) = true := by unfold validH; rw [hv, okG_zero]; rfl
    have c : ∀ q : Nat, q ≤ 5 → cntR (q : Int) l (Vector.replicate 16 0 : Vector Int 16) = (countN q l, 0) := by
      intro q hq
      unfold cntR
      rw [if_pos hH, if_pos (kdN q hq)]
    have g0 := gre_lt 0 6 x 0 (by omega) (by omega) hx
    have g1 := gre_lt 1 6 x 0 (by omega) (by omega) hx
    have g2 := gre_lt 2 6 x 0 (by omega) (by omega) hx
    obtain ⟨w0, w1, w2, w3⟩ := wos
    rw [← hl] at g0 g1 g2
    have e0 := CountI_ev false l (Vector.replicate 16 0 : Vector Int 16) ((0 : Nat) : Int) hm hw
    have e1 := CountI_ev false l (Vector.replicate 16 0 : Vector Int 16) ((1 : Nat) : Int) hm hw
    have e2 := CountI_ev false l (Vector.replicate 16 0 : Vector Int 16) ((2 : Nat) : Int) hm hw
    rw [c 0 (by omega)] at e0
    rw [c 1 (by omega)] at e1
    rw [c 2 (by omega)] at e2
    rw [w0, show wo ((0 + 1 : Nat) : Int) = 12 from rfl] at g0
    rw [w1, show wo ((1 + 1 : Nat) : Int) = 240 from rfl] at g1
    rw [w2, show wo ((2 + 1 : Nat) : Int) = 4800 from rfl] at g2
    refine Ev.bind e0 (Ev.bind e1 (Ev.bind e2 (ev_pos hsx (ev_pos rfl (ev_pos (by dsimp only; omega) (ev_pos rfl (ev_pos (by dsimp only; omega) (ev_pos rfl ?_))))))))
    rw [decide_eq_true (by dsimp only; omega)]
    exact Ev.now _
theorem amount_drawn {c : List Int} (h : byteL c) : ∃ x, spec_A2Amount.f c = some x ∧ 0 ≤ x ∧ x < 6000 := by
  unfold spec_A2Amount.f spec_l00From.f
  simp only [Option.bind_some]
  obtain ⟨x, i2, s2, e, h0, h1, _⟩ := pick2_f h 0 0 6000 (by omega) (by omega) (by omega)
  rw [e]
  exact ⟨x, rfl, h0, h1⟩
theorem nT_any (k a : Int) : wfT (nT k a) := by
  have h8 : -128 ≤ IntKind.i8.wrap k ∧ IntKind.i8.wrap k ≤ 127 := by
    simp only [IntKind.wrap, IntKind.bits, IntKind.signed]; simp; omega
  have h16 : -32768 ≤ IntKind.i16.wrap a ∧ IntKind.i16.wrap a ≤ 32767 := by
    simp only [IntKind.wrap, IntKind.bits, IntKind.signed]; simp; omega
  exact ⟨h8, h16⟩
theorem run_wfT (k : Int) : ∀ (c : Nat) (a : Int), ∀ n ∈ run k a c, wfT n
  | 0, a, n, h => by simp [run] at h
  | c + 1, a, n, h => by
    simp only [run, List.mem_cons] at h
    rcases h with rfl | h
    · exact nT_any k a
    · exact run_wfT k c _ n h
theorem gre_wfT : ∀ (m : Nat) (x a : Int), ∀ n ∈ gre m x a, wfT n
  | 0, x, a, n, h => by simp [gre] at h
  | m + 1, x, a, n, h => by
    simp only [gre, List.mem_append] at h
    rcases h with h | h
    · exact run_wfT _ _ _ n h
    · exact gre_wfT m _ _ n h
theorem FnAmounts (c : List Int) (hc : c.length ≤ maxLen) (hb : ∀ z ∈ c, (Lit.int .u8 z).wf = true) : ∃ k, laws_FnAmounts.f k c = some true := by
  refine Ev.rounds (r := true) ?_
  unfold laws_FnAmounts.f laws_a2Long.f
  by_cases h3 : (c.length : Int) > 3000
  · rw [if_pos h3]
    exact ev_bind0 rfl (ev_pos rfl (Ev.now _))
  rw [if_neg h3]
  refine ev_bind0 rfl (ev_neg (by simpa using by omega) ?_)
  have hB : byteL c := ⟨by omega, fun z hz => by
    have := hb z hz
    simp [Lit.wf, IntKind.min, IntKind.max, IntKind.signed, IntKind.bits] at this
    omega⟩
  obtain ⟨x, ex, x0, x1⟩ := amount_drawn hB
  refine ev_bind0 ex ?_
  have ht := implText_ev x
  rw [show amtT x = amtL x.toNat by unfold amtT; rw [if_pos (by omega)]] at ht
  have hr := implRead_ev (amtL x.toNat) (by have := amtL_len x.toNat (by omega); omega)
  rw [readI_some (readA_amt x.toNat (by omega)), show ((x.toNat : Nat) : Int) = x by omega] at hr
  have I := ForI_ev x
  have S := ForS_ev x
  have hl := forR_len x
  refine Ev.bind ht (Ev.bind hr (Ev.bind I (Ev.bind S (ev_pos rfl (ev_pos rfl (ev_pos rfl ?_))))))
  have hm : (forR x).1.length ≤ maxLen := by unfold maxLen; omega
  have hs := PuNotchSAmounts.sameS_ev (forR x).1 (forR x).1 hm
  rw [PuNotchSAmounts.dec_true rfl] at hs
  refine Ev.bind (Ev.bind hs (Ev.now _)) ?_
  refine Ev.step (fun k => by simp only [laws_FnAmounts.j0]; rfl) ?_
  refine ev_neg (by decide) ?_
  have e : forR x = if validN (gre 6 x 0) = true then (gre 6 x 0, 0) else ([], 3) := by
    unfold forR
    rw [if_pos (by omega)]
  by_cases hv : validN (gre 6 x 0) = true
  · rw [if_pos hv] at e
    rw [e]
    refine ev_pos rfl ?_
    refine last_loop x _ x0 rfl hv ?_
    exact gre_wfT 6 x 0
  · rw [if_neg hv] at e
    rw [e]
    exact ev_neg (by decide) (Ev.now _)
end Go.Proofs.YtfjmljgbdejghaaDoor.Pure
