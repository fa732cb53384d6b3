/- Debts that are read from texts: what the program and the reference read is one. -/
import Derived.Test.YtfjmljgbdejghaaDoorMReadDebtsx0
import Derived.Test.YtfjmljgbdejghaaDoorMReadDebtsx5
import Derived.Test.YtfjmljgbdejghaaDoorMReadDebtsx6
import Derived.Test.YtfjmljgbdejghaaDoorMReadDebtsx7
import Derived.Test.YtfjmljgbdejghaaDoorMReadDebtsx8
import Derived.Test.YtfjmljgbdejghaaDoorVReadDebtsEv
import Derived.Test.YtfjmljgbdejghaaDoorPuDebtReadDebts
import Derived.Test.YtfjmljgbdejghaaDoorPuSumNetsReadDebts
import Derived.Test.YtfjmljgbdejghaaDoorPuBytReadDebts
import Derived.Test.YtfjmljgbdejghaaDoorPuWordsReadDebts
import Derived.Test.YtfjmljgbdejghaaDoorPuNumReadDebts
import Derived.Test.YtfjmljgbdejghaaDoorPuAmtReadDebts
import Derived.Test.YtfjmljgbdejghaaDoorPuReadReadDebts
namespace Go.Proofs.YtfjmljgbdejghaaDoor.PuRDebtReadDebts
open Go.RowKit Go.Proofs.YtfjmljgbdejghaaDoor.MReadDebts Go.Proofs.YtfjmljgbdejghaaDoorW.PrintWords Go.Proofs.YtfjmljgbdejghaaDoorW.PrintLast Go.Proofs.YtfjmljgbdejghaaDoor.Evs Go.Proofs.YtfjmljgbdejghaaDoor.PuDebtReadDebts Go.Proofs.YtfjmljgbdejghaaDoor.PuSumNetsReadDebts Go.Proofs.YtfjmljgbdejghaaDoor.PuBytReadDebts Go.Proofs.YtfjmljgbdejghaaDoor.PuWordsReadDebts Go.Proofs.YtfjmljgbdejghaaDoor.PuNumReadDebts Go.Proofs.YtfjmljgbdejghaaDoor.PuAmtReadDebts Go.Proofs.YtfjmljgbdejghaaDoor.PuReadReadDebts
set_option linter.unusedVariables false
set_option linter.unusedSimpArgs false

/-! numbers of nine and of ten digits -/
theorem valF_ge : ∀ (w : List UInt8) (n : Nat), n * 10 ^ w.length ≤ valF n w
  | [], n => by simp [valF]
  | b :: w, n => by
    show _ ≤ valF (10 * n + (b.toNat - 48)) w
    have := valF_ge w (10 * n + (b.toNat - 48))
    have h2 : n * 10 ^ (b :: w).length = (10 * n) * 10 ^ w.length := by rw [List.length_cons, Nat.pow_succ]; rw [Nat.mul_comm 10 n, Nat.mul_assoc, Nat.mul_comm 10]
    rw [h2]
    exact Nat.le_trans (Nat.mul_le_mul_right _ (by omega)) this
theorem num_9_10 (w : List UInt8) (h : (numOf 9 w).2 = true) : numOf 10 w = numOf 9 w := by
  unfold numOf at h ⊢
  by_cases h1 : w = [] ∨ 9 < w.length ∨ (w.head? = some 48 ∧ 1 < w.length)
  · rw [if_pos h1] at h; cases h
  · rw [if_neg h1, if_neg]
    rintro (h2 | h2 | h2)
    · exact h1 (.inl h2)
    · exact h1 (.inr (.inl (by omega)))
    · exact h1 (.inr (.inr h2))
theorem num_big (w : List UInt8) (h : (numOf 9 w).2 = false) (h2 : (numOf 10 w).2 = true) : 1000000000 ≤ (numOf 10 w).1 := by
  unfold numOf at h h2 ⊢
  by_cases h1 : w = [] ∨ 10 < w.length ∨ (w.head? = some 48 ∧ 1 < w.length)
  · rw [if_pos h1] at h2; cases h2
  rw [if_neg h1] at h2 ⊢
  by_cases hd : digs w = true
  · rw [if_pos hd]
    by_cases h9 : w = [] ∨ 9 < w.length ∨ (w.head? = some 48 ∧ 1 < w.length)
    · rcases h9 with h9 | h9 | h9
      · exact absurd (.inl h9) h1
      · cases w with
        | nil => simp at h9
        | cons b t =>
          have hb : digs (b :: t) = true := hd
          simp only [digs, List.all_cons, Bool.and_eq_true] at hb
          have hb2 : 48 ≤ b.toNat ∧ b.toNat ≤ 57 := by simpa [isD] using hb.1
          have hne : b.toNat ≠ 48 := fun e => h1 (.inr (.inr ⟨by
            have : b = 48 := UInt8.toNat_inj.1 (by have h48 : (48 : UInt8).toNat = 48 := rfl; omega)
            rw [this]; rfl, by omega⟩))
          have hv := valF_ge t (10 * 0 + (b.toNat - 48))
          have hp : 10 ^ 9 ≤ 10 ^ t.length := Nat.pow_le_pow_right (by omega) (by simp at h9; omega)
          have hm : 1 * 10 ^ t.length ≤ (10 * 0 + (b.toNat - 48)) * 10 ^ t.length := Nat.mul_le_mul_right _ (by omega)
          have : valF 0 (b :: t) = valF (10 * 0 + (b.toNat - 48)) t := rfl
          show (1000000000 : Int) ≤ ((valF 0 (b :: t) : Nat) : Int)
          rw [this]
          omega
      · exact absurd (.inr (.inr h9)) h1
    · rw [if_neg h9, if_pos hd] at h; cases h
  · rw [if_neg hd] at h2; cases h2
/-! three words -/
theorem cut3 (c : UInt8) : ∀ (n : Nat) (l : List UInt8), (words c l = [l] ∧ ∀ m, Lib.splitK [c] 0 m l = [l]) ∨ (∃ i, i < l.length ∧ words c l = l.take i :: words c (l.drop (i + 1)) ∧ ∀ m, Lib.splitK [c] 0 (m + 1) l = l.take i :: Lib.splitK [c] 0 m (l.drop (i + 1))) := by
  intro _ l
  have hge := Lib.index_ge l [c]
  by_cases h : Lib.index l [c] = -1
  · refine .inl ⟨?_, ?_⟩
    · rw [Lib.index_one] at h
      have hno := Lib.indexByte_none h
      exact words_none (fun hm => by
        obtain ⟨k, hk⟩ := List.getElem?_of_mem hm
        exact hno k hk)
    · intro m
      cases m with
      | zero => rfl
      | succ m => rw [Lib.splitK, if_pos (by rw [beq_iff_eq]; exact h)]
  · obtain ⟨i, hi⟩ : ∃ i : Nat, Lib.index l [c] = (i : Int) := ⟨(Lib.index l [c]).toNat, by omega⟩
    have hi' := hi
    rw [Lib.index_one] at hi'
    obtain ⟨h1, h2⟩ := Lib.indexByte_some hi'
    have hlt : i < l.length := by
      rcases Nat.lt_or_ge i l.length with h | h
      · exact h
      · rw [List.getElem?_eq_none h] at h1; cases h1
    refine .inr ⟨i, hlt, ?_, ?_⟩
    · have hd : l.drop i = c :: l.drop (i + 1) := by
        rw [List.drop_eq_getElem_cons hlt]
        rw [List.getElem?_eq_getElem hlt] at h1
        injection h1 with h1
        rw [h1]
      have e : l = l.take i ++ c :: l.drop (i + 1) := by rw [← hd, List.take_append_drop]
      have hno : c ∉ l.take i := fun hm => by
        obtain ⟨k, hk⟩ := List.getElem?_of_mem hm
        have hki : k < i := by
          rcases Nat.lt_or_ge k i with h | h
          · exact h
          · rw [List.getElem?_take, if_neg (by omega)] at hk; cases hk
        rw [List.getElem?_take, if_pos hki] at hk
        exact h2 k hki hk
      conv => lhs; rw [e]
      exact words_hit _ hno
    · intro m
      rw [Lib.splitK, if_neg (by rw [beq_iff_eq]; exact h), hi]
      simp only [Int.toNat_natCast, Nat.add_zero, List.length_singleton]
theorem words_pos (c : UInt8) (l : List UInt8) : 1 ≤ (words c l).length := List.length_pos_iff.2 (words_ne c l)
/-- the three words of a line, if there are as many -/
theorem three (c : UInt8) (l : List UInt8) :
    ((words c l).length < 3 ∧ (Lib.splitK [c] 0 (min 3 (l.length + 1) - 1) l).length < 3) ∨
    (∃ w0 w1 ws, w0.length + w1.length + 2 ≤ l.length ∧ words c l = w0 :: w1 :: ws ∧ ws ≠ [] ∧ Lib.splitK [c] 0 (min 3 (l.length + 1) - 1) l = [w0, w1, l.drop (w0.length + w1.length + 2)]) := by
  by_cases hs : l.length < 2
  · left
    have := words_len c l
    refine ⟨by omega, ?_⟩
    rcases cut3 c 0 l with ⟨_, h2⟩ | ⟨i, hi, h1, h2⟩
    · rw [h2]; simp
    · have : min 3 (l.length + 1) - 1 = 0 + 1 := by omega
      rw [this, h2]
      simp [Lib.splitK]
  rw [show min 3 (l.length + 1) - 1 = 1 + 1 by omega]
  rcases cut3 c 0 l with ⟨h1, h2⟩ | ⟨i, hi, h1, h2⟩
  · left; rw [h1, h2]; simp
  rcases cut3 c 0 (l.drop (i + 1)) with ⟨g1, g2⟩ | ⟨j, hj, g1, g2⟩
  · left; rw [h1, h2, g1, g2]; simp
  right
  rw [List.length_drop] at hj
  refine ⟨l.take i, (l.drop (i + 1)).take j, words c ((l.drop (i + 1)).drop (j + 1)), ?_, ?_, words_ne _ _, ?_⟩
  · rw [List.length_take, List.length_take, List.length_drop]; omega
  · rw [h1, g1]
  · rw [h2, show (1 : Nat) = 0 + 1 from rfl, g2]
    simp only [Lib.splitK, List.drop_drop]
    congr 3
    rw [List.length_take, List.length_take, List.length_drop]
    congr 1
    omega
theorem splitN_f (l : List UInt8) (hl : l.length ≤ 1000000000) : strings_SplitN.f (mkB l) (⟨#[32]⟩ : ByteArray) 3 = some ((Lib.splitK [32] 0 (min 3 (l.length + 1) - 1) l).map mkB) := by
  unfold strings_SplitN.f
  rw [if_pos ⟨by rw [mkB_size]; omega, by decide, by decide, by decide⟩]
  congr 1
  have h := Lib.splitB_data (mkB [32]) 0 (min 3 (l.length + 1) - 1) (mkB l)
  rw [mkB_data, mkB_data] at h
  rw [← h, List.map_map]
  have : (mkB ∘ fun x : ByteArray => x.data.toList) = id := by funext x; exact mkB_of x
  rw [this, List.map_id, mkB_size]
  rfl
/-! one line -/
noncomputable def lineP (m : Nat) (l : List UInt8) : Option D :=
  if (words 32 l).length < 3 then none else
  let w0 := (words 32 l).getD 0 []
  let w1 := (words 32 l).getD 1 []
  if (numOf m w0).2 = true ∧ (numOf m w1).2 = true then (readA (l.drop (w0.length + w1.length + 2))).map fun a : Nat => (⟨(numOf m w0).1, (numOf m w1).1, (a : Int)⟩ : D) else none
theorem lineP_three (m : Nat) {l w0 w1 : List UInt8} {ws : List (List UInt8)} (h : words 32 l = w0 :: w1 :: ws) (hw : ws ≠ []) :
    lineP m l = if (numOf m w0).2 = true ∧ (numOf m w1).2 = true then (readA (l.drop (w0.length + w1.length + 2))).map fun a : Nat => (⟨(numOf m w0).1, (numOf m w1).1, (a : Int)⟩ : D) else none := by
  unfold lineP
  rw [h, if_neg (by have := List.length_pos_iff.2 hw; simp; omega)]
  simp only [List.getD_cons_zero, List.getD_cons_succ]
theorem lineP_9 (l : List UInt8) : lineP 9 l = lineP 10 l ∨ (lineP 9 l = none ∧ ∃ d, lineP 10 l = some d ∧ okD 16 d = false) := by
  rcases three 32 l with ⟨h, _⟩ | ⟨w0, w1, ws, _, h, hw, _⟩
  · left; unfold lineP; rw [if_pos h, if_pos h]
  rw [lineP_three 9 h hw, lineP_three 10 h hw]
  by_cases h10 : (numOf 10 w0).2 = true ∧ (numOf 10 w1).2 = true
  · by_cases h9 : (numOf 9 w0).2 = true ∧ (numOf 9 w1).2 = true
    · left; rw [if_pos h9, if_pos h10, num_9_10 _ h9.1, num_9_10 _ h9.2]
    · rw [if_neg h9, if_pos h10]
      cases readA (l.drop (w0.length + w1.length + 2)) with
      | none => left; rfl
      | some a =>
        right
        refine ⟨rfl, _, rfl, okD_false ?_⟩
        rintro ⟨q1, q2, q3, q4, _⟩
        dsimp only at q1 q2 q3 q4
        cases e0 : (numOf 9 w0).2 with
        | false => have := num_big w0 e0 h10.1; omega
        | true =>
          cases e1 : (numOf 9 w1).2 with
          | false => have := num_big w1 e1 h10.2; omega
          | true => exact h9 ⟨e0, e1⟩
  · left
    rw [if_neg h10, if_neg]
    rintro ⟨q0, q1⟩
    exact h10 ⟨by rw [num_9_10 _ q0]; exact q0, by rw [num_9_10 _ q1]; exact q1⟩
noncomputable def goR (m : Nat) : List D → List (List UInt8) → List D × Int
  | acc, [] => if valid 16 acc = true then (acc, 0) else ([], 5)
  | acc, l :: ls => match lineP m l with | none => ([], 5) | some d => goR m (acc ++ [d]) ls
theorem goR_bad : ∀ (ls : List (List UInt8)) (acc : List D), (∃ d ∈ acc, okD 16 d = false) → goR 10 acc ls = ([], 5)
  | [], acc, ⟨d, hd, h⟩ => by
    unfold goR
    rw [if_neg]
    intro hv
    unfold valid at hv
    simp only [Bool.and_eq_true, List.all_eq_true] at hv
    rw [hv.2 d hd] at h; cases h
  | l :: ls, acc, ⟨d, hd, h⟩ => by
    show (match lineP 10 l with | none => ([], 5) | some d => goR 10 (acc ++ [d]) ls) = _
    cases lineP 10 l with
    | none => rfl
    | some e => exact goR_bad ls _ ⟨d, by simp [hd], h⟩
theorem goR_long : ∀ (ls : List (List UInt8)) (acc : List D), 60 < acc.length + ls.length → goR 10 acc ls = ([], 5)
  | [], acc, h => by
    unfold goR
    rw [if_neg]
    intro hv
    have := (valid_bd hv).2.2.1
    simp at h; omega
  | l :: ls, acc, h => by
    show (match lineP 10 l with | none => ([], 5) | some d => goR 10 (acc ++ [d]) ls) = _
    cases lineP 10 l with
    | none => rfl
    | some e => exact goR_long ls _ (by simp at h ⊢; omega)
theorem goR_9 : ∀ (ls : List (List UInt8)) (acc : List D), goR 9 acc ls = goR 10 acc ls
  | [], acc => rfl
  | l :: ls, acc => by
    show (match lineP 9 l with | none => ([], 5) | some d => goR 9 (acc ++ [d]) ls) = (match lineP 10 l with | none => ([], 5) | some d => goR 10 (acc ++ [d]) ls)
    rcases lineP_9 l with e | ⟨e, d, e2, hd⟩
    · rw [e]
      cases lineP 10 l with
      | none => rfl
      | some d => exact goR_9 ls _
    · rw [e, e2]
      exact (goR_bad ls _ ⟨d, by simp, hd⟩).symm
theorem goR_len : ∀ (ls : List (List UInt8)) (acc : List D), (goR 9 acc ls).1.length ≤ 60
  | [], acc => by
    unfold goR
    split
    · rename_i h; exact (valid_bd h).2.2.1
    · simp
  | l :: ls, acc => by
    show (match lineP 9 l with | none => ([], 5) | some d => goR 9 (acc ++ [d]) ls).1.length ≤ 60
    cases lineP 9 l with
    | none => simp
    | some d => exact goR_len ls _
/-- the lines of a text, and whether the last one ends -/
def linesL (l : List UInt8) : List (List UInt8) := (words 10 l).dropLast
def lastL (l : List UInt8) : List UInt8 := (words 10 l).getLast (words_ne 10 l)
noncomputable def readD (l : List UInt8) : List D × Int := if lastL l = [] then goR 9 [] (linesL l) else ([], 5)
theorem rdOf_at (ws : List (List UInt8)) (i : Nat) (h : i < ws.length) : rdOf ByteArray.empty (ws.map mkB) (i : Int) = mkB (ws[i]) := rdOf_mk ws i h
theorem lastB2 (l : List UInt8) (hl : (words 10 l).length ≤ 4000000000) : rdOf ByteArray.empty ((words 10 l).map mkB) (((words 10 l).length : Int) - 1) = mkB (lastL l) := by
  have hp := words_pos 10 l
  rw [show (((words 10 l).length : Int) - 1) = (((words 10 l).length - 1 : Nat) : Int) by omega, rdOf_mk _ _ (by omega)]
  unfold lastL
  rw [List.getLast_eq_getElem]
theorem lines_f (l : List UInt8) (hl : l.length ≤ 1000000000) : impl_linesOf.f (mkB l) = some ((linesL l).map mkB, decide (lastL l = [])) := by
  unfold impl_linesOf.f
  rw [mkB_toList]
  by_cases h : l = []
  · subst h; rfl
  rw [if_neg h]
  have hs : strings_Split.f (mkB l) (⟨#[10]⟩ : ByteArray) = some ((words 10 l).map mkB) := by
    unfold strings_Split.f
    rw [if_pos ⟨by rw [mkB_size]; omega, by decide⟩]
    congr 1
    exact splitB_words 10 l
  rw [hs, Option.bind_some, List.length_map]
  have hp := words_pos 10 l
  have hn := words_len 10 l
  rw [wrap_id (by omega) (by omega), if_pos (by omega), if_pos (by omega), if_pos (by omega), lastB2 l (by omega), mkB_toList]
  congr 1
  have e1 : ((words 10 l).map mkB).take (((words 10 l).length : Int) - 1).toNat = (linesL l).map mkB := by
    unfold linesL
    rw [List.dropLast_eq_take, List.map_take, show (((words 10 l).length : Int) - 1).toNat = (words 10 l).length - 1 by omega]
  rw [e1]
  congr 1
  by_cases he : lastL l = []
  · rw [decide_eq_true he]; simpa using he
  · rw [decide_eq_false he]; simpa using he
theorem loopDI (ls : List (List UInt8)) (hn : ls.length ≤ 60) (hw : ∀ w ∈ ls, w.length ≤ 1000000000) :
    Ev (fun k => impl_ReadDebts.l0 k [] (ls.map mkB) (ls.length : Int) 0) (goR 9 [] ls) := by
  have key := ev_forI (σ := List D) (n := ls.length) (G := fun k s i => impl_ReadDebts.l0 k s (ls.map mkB) (ls.length : Int) i) (F := fun s i => goR 9 s (ls.drop i)) (I := fun s i => s.length ≤ i) ?_ ?_ 0 (by omega) [] (by simp)
  · exact key
  · intro i hi ih s hs
    refine Ev.step (fun k => by simp only [impl_ReadDebts.l0]; rfl) ?_
    refine ev_pos (by omega) (ev_pos (by omega) (ev_pos (by rw [List.length_map]; omega) ?_))
    rw [rdOf_mk ls i hi, List.drop_eq_getElem_cons hi, wrap_up hi (by omega)]
    have hlen := hw _ (List.getElem_mem hi)
    show Ev _ (match lineP 9 ls[i] with | none => ([], 5) | some d => goR 9 (s ++ [d]) (ls.drop (i + 1)))
    generalize ls[i] = w at hlen ⊢
    refine ev_bind0 (splitN_f w hlen) ?_
    rcases three 32 w with ⟨h, h'⟩ | ⟨w0, w1, ws, hle, h, hws, h'⟩
    · have : lineP 9 w = none := by unfold lineP; rw [if_pos h]
      rw [this]
      exact ev_pos (by rw [List.length_map]; omega) (Ev.now _)
    rw [h', lineP_three 9 h hws]
    have r0 := rdOf_mk [w0, w1, w.drop (w0.length + w1.length + 2)] 0 (by simp)
    have r1 := rdOf_mk [w0, w1, w.drop (w0.length + w1.length + 2)] 1 (by simp)
    have r2 := rdOf_mk [w0, w1, w.drop (w0.length + w1.length + 2)] 2 (by simp)
    simp only [List.getElem_cons_zero, List.getElem_cons_succ] at r0 r1 r2
    have r0' : rdOf ByteArray.empty ([w0, w1, w.drop (w0.length + w1.length + 2)].map mkB) 0 = mkB w0 := r0
    have r1' : rdOf ByteArray.empty ([w0, w1, w.drop (w0.length + w1.length + 2)].map mkB) 1 = mkB w1 := r1
    have r2' : rdOf ByteArray.empty ([w0, w1, w.drop (w0.length + w1.length + 2)].map mkB) 2 = mkB (w.drop (w0.length + w1.length + 2)) := r2
    rw [r0', r1', r2', List.length_map]
    refine ev_neg (by simp) (ev_pos (by simp) (Ev.bind (numI_ev w0) (ev_pos (by simp) (Ev.bind (numI_ev w1) (ev_pos (by simp) (Ev.bind (implRead_ev _ (by rw [List.length_drop]; omega)) ?_))))))
    by_cases h1 : (numOf 9 w0).2 = true
    · refine ev_pos h1 ?_
      by_cases h2 : (numOf 9 w1).2 = true
      · refine ev_pos h2 ?_
        rw [if_pos ⟨h1, h2⟩]
        cases ha : readA (w.drop (w0.length + w1.length + 2)) with
        | none =>
          rw [readI_none ha]
          exact ev_neg (by decide) (Ev.now _)
        | some a =>
          rw [readI_some ha]
          refine ev_pos rfl (ev_pos (by omega) ?_)
          exact ih _ (by simp; omega)
      · refine ev_neg h2 ?_
        rw [if_neg (fun h => h2 h.2)]
        exact Ev.now _
    · refine ev_neg h1 ?_
      rw [if_neg (fun h => h1 h.1)]
      exact Ev.now _
  · intro s hs
    refine Ev.step (fun k => by simp only [impl_ReadDebts.l0]; rfl) ?_
    refine ev_neg (by omega) ?_
    rw [List.drop_length]
    refine Ev.bind (ValidI_ev 16 s (by unfold maxLen; omega)) ?_
    show Ev _ (if valid 16 s = true then (s, 0) else ([], 5))
    refine ev_if (fun h => ?_) (fun h => ?_)
    · rw [if_pos h]; exact Ev.now _
    · rw [if_neg h]; exact Ev.now _
theorem words_mem_len {l w : List UInt8} (h : w ∈ linesL l) : w.length ≤ l.length := words_each 10 l w (List.dropLast_subset _ h)
theorem RDebtI_ev (l : List UInt8) (hl : l.length ≤ 1000000000) : Ev (fun k => impl_ReadDebts.f k (mkB l)) (readD l) := by
  unfold impl_ReadDebts.f readD
  refine ev_bind0 (lines_f l hl) ?_
  have stop : ∀ x : List ByteArray, Ev (fun k => impl_ReadDebts.j0 k x true) (([] : List D), (5 : Int)) := fun x => Ev.step (fun k => rfl) (Ev.now _)
  by_cases h : lastL l = []
  · refine ev_pos (decide_eq_true h) ?_
    rw [if_pos h]
    dsimp only
    rw [List.length_map]
    by_cases h60 : ((linesL l).length : Int) > 60
    · rw [decide_eq_true h60, goR_9, goR_long _ _ (by simp; omega)]
      exact stop _
    · rw [decide_eq_false h60]
      refine Ev.step (fun k => by simp only [impl_ReadDebts.j0]; rfl) ?_
      refine ev_neg (by decide) ?_
      rw [List.length_map]
      exact loopDI (linesL l) (by omega) (fun w hw => by have := words_mem_len hw; omega)
  · refine ev_neg (fun e => h (of_decide_eq_true e)) ?_
    rw [if_neg h]
    exact stop _
theorem linesL_len (l : List UInt8) : (words 10 l).length = (linesL l).length + 1 := by
  have := words_pos 10 l
  unfold linesL
  rw [List.length_dropLast]; omega
theorem linesL_get (l : List UInt8) (i : Nat) (h : i < (linesL l).length) : (words 10 l)[i]'(by rw [linesL_len]; omega) = (linesL l)[i] := by
  simp [linesL]
theorem loopDS (l : List UInt8) (hl : l.length ≤ 1000000000) :
    Ev (fun k => spec_ReadDebts.l0 k ((words 10 l).map mkB) [] true 0) (goR 10 [] (linesL l)) := by
  have hlen := linesL_len l
  have hn := words_len 10 l
  have bad : ∀ (s : List D) (i : Int), Ev (fun k => spec_ReadDebts.j1 k ((words 10 l).map mkB) s false i false) (([] : List D), (5 : Int)) := fun s i => by
    refine Ev.step (fun k => rfl) (Ev.now _)
  have bad0 : ∀ (s : List D) (i : Int), Ev (fun k => spec_ReadDebts.l0 k ((words 10 l).map mkB) s false i) (([] : List D), (5 : Int)) := fun s i => by
    refine Ev.step (fun k => by simp only [spec_ReadDebts.l0]; rfl) ?_
    exact ev_if (fun _ => bad s i) (fun _ => bad s i)
  have key := ev_forI (σ := List D) (n := (linesL l).length) (G := fun k s i => spec_ReadDebts.l0 k ((words 10 l).map mkB) s true i) (F := fun s i => goR 10 s ((linesL l).drop i)) (I := fun s i => s.length ≤ i) ?_ ?_ 0 (by omega) [] (by simp)
  · exact key
  · intro i hi ih s hs
    refine Ev.step (fun k => by simp only [spec_ReadDebts.l0]; rfl) ?_
    rw [wrap_up hi (by omega)]
    refine ev_pos (by rw [List.length_map]; omega) ?_
    refine Ev.step (fun k => by simp only [spec_ReadDebts.j1]; rfl) ?_
    refine ev_pos (c := (true = true)) (g := fun _ => none) rfl ?_
    refine ev_pos (by omega) (ev_pos (by rw [List.length_map]; omega) ?_)
    rw [rdOf_mk _ i (by omega), linesL_get l i hi, List.drop_eq_getElem_cons hi, wrap_up hi (by omega)]
    have hwl : ((linesL l)[i]).length ≤ 1000000000 := by have := words_mem_len (List.getElem_mem hi : (linesL l)[i] ∈ linesL l); omega
    show Ev _ (match lineP 10 (linesL l)[i] with | none => ([], 5) | some d => goR 10 (s ++ [d]) ((linesL l).drop (i + 1)))
    generalize (linesL l)[i] = w at hwl ⊢
    refine Ev.bind (split_ev w 32 (by omega)) ?_
    rcases three 32 w with ⟨h, h'⟩ | ⟨w0, w1, ws, hle, h, hws, h'⟩
    · have : lineP 10 w = none := by unfold lineP; rw [if_pos h]
      rw [this]
      exact ev_pos (by rw [List.length_map]; omega) (Ev.now _)
    rw [h, lineP_three 10 h hws]
    have hpos := List.length_pos_iff.2 hws
    have r0' : rdOf ByteArray.empty ((w0 :: w1 :: ws).map mkB) 0 = mkB w0 := rdOf_mk (w0 :: w1 :: ws) 0 (by simp)
    have r1' : rdOf ByteArray.empty ((w0 :: w1 :: ws).map mkB) 1 = mkB w1 := rdOf_mk (w0 :: w1 :: ws) 1 (by simp)
    rw [r0', r1', List.length_map, mkB_size, mkB_size, mkB_size, wrap_id (x := (w0.length : Int) + (w1.length : Int)) (by omega) (by omega), wrap_id (by omega) (by omega)]
    refine ev_neg (by simp; omega) (ev_pos (by simp; omega) (Ev.bind (numS_ev w0) (ev_pos (by simp; omega) (Ev.bind (numS_ev w1) (ev_pos (by omega) (ev_pos (by omega) ?_))))))
    rw [show ((w0.length : Int) + (w1.length : Int) + 2).toNat = w0.length + w1.length + 2 by omega, mkB_extract]
    have htk : (w.drop (w0.length + w1.length + 2)).take (w.length - (w0.length + w1.length + 2)) = w.drop (w0.length + w1.length + 2) := List.take_of_length_le (by rw [List.length_drop]; omega)
    rw [htk]
    refine Ev.bind (specRead_ev _ (by rw [List.length_drop]; omega)) ?_
    obtain ⟨a1, a2⟩ := runS_all (w.drop (w0.length + w1.length + 2))
    by_cases h1 : (numOf 10 w0).2 = true
    · refine ev_pos h1 ?_
      by_cases h2 : (numOf 10 w1).2 = true
      · refine ev_pos h2 (ev_pos (by omega) ?_)
        rw [if_pos ⟨h1, h2⟩]
        cases ha : readA (w.drop (w0.length + w1.length + 2)) with
        | none =>
          rw [ha] at a1
          rw [a1]
          exact bad0 _ _
        | some a =>
          rw [a2 a ha]
          exact ih _ (by simp; omega)
      · refine ev_neg h2 (ev_pos (by omega) ?_)
        rw [if_neg (fun h => h2 h.2)]
        exact bad0 _ _
    · refine ev_neg h1 (ev_pos (by omega) ?_)
      rw [if_neg (fun h => h1 h.1)]
      exact bad0 _ _
  · intro s hs
    refine Ev.step (fun k => by simp only [spec_ReadDebts.l0]; rfl) ?_
    rw [wrap_id (by omega) (by omega)]
    refine ev_neg (by rw [List.length_map]; omega) ?_
    refine Ev.step (fun k => by simp only [spec_ReadDebts.j1]; rfl) ?_
    refine ev_neg (by decide) ?_
    rw [List.drop_length]
    refine ev_pos (c := (true = true)) (g := fun _ => none) rfl ?_
    refine Ev.bind (l02Ok_ev 16 s (by unfold maxLen; omega)) ?_
    show Ev _ (if valid 16 s = true then (s, 0) else ([], 5))
    refine ev_if (fun h => ?_) (fun h => ?_)
    · rw [if_pos h]; exact Ev.now _
    · rw [if_neg h]; exact Ev.now _
theorem RDebtS_ev (l : List UInt8) (hl : l.length ≤ 1000000000) : Ev (fun k => spec_ReadDebts.f k (mkB l)) (readD l) := by
  unfold spec_ReadDebts.f readD
  refine Ev.bind (split_ev l 10 (by omega)) ?_
  have hp := words_pos 10 l
  have hn := words_len 10 l
  rw [List.length_map, wrap_id (by omega) (by omega), lastB2 l (by omega), mkB_toList]
  refine ev_pos (by omega) (ev_pos (by omega) ?_)
  by_cases h : lastL l = []
  · rw [if_pos h, h, goR_9]
    exact loopDS l hl
  · rw [if_neg h, show (lastL l == ([] : List UInt8)) = false by simpa using h]
    refine Ev.step (fun k => by simp only [spec_ReadDebts.l0]; rfl) ?_
    exact ev_if (fun _ => Ev.step (fun k => rfl) (Ev.now _)) (fun _ => Ev.step (fun k => rfl) (Ev.now _))
theorem readD_len (l : List UInt8) : (readD l).1.length ≤ 60 := by
  unfold readD
  split
  · exact goR_len _ _
  · simp
end Go.Proofs.YtfjmljgbdejghaaDoor.PuRDebtReadDebts
