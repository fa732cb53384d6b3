/- A text's words: the library's Split at one byte and the reference's splitting are one. -/
import Derived.Test.YtfjmljgbdejghaaDoorMReadHalfx0
import Derived.Test.YtfjmljgbdejghaaDoorMReadHalfx1
import Derived.Test.YtfjmljgbdejghaaDoorVReadHalfEv
import Derived.Test.YtfjmljgbdejghaaDoorPuBytReadHalf
import Derived.Lib.Split
import Derived.Lib.IndexBytes
import Derived.Lib.IndexLaws
import Derived.Lib.CountLaws
import Derived.Lib.Join
namespace Go.Proofs.YtfjmljgbdejghaaDoor.PuWordsReadHalf
open Go.RowKit Go.Proofs.YtfjmljgbdejghaaDoor.MReadHalf Go.Proofs.YtfjmljgbdejghaaDoorW.PrintWords Go.Proofs.YtfjmljgbdejghaaDoorW.PrintLast Go.Proofs.YtfjmljgbdejghaaDoor.Evs Go.Proofs.YtfjmljgbdejghaaDoor.PuBytReadHalf
set_option linter.unusedVariables false
set_option linter.unusedSimpArgs false

def glue (p : List UInt8) : List (List UInt8) → List (List UInt8)
  | [] => [p]
  | w :: ws => (p ++ w) :: ws
def words (c : UInt8) : List UInt8 → List (List UInt8)
  | [] => [[]]
  | b :: l => if b = c then [] :: words c l else glue [b] (words c l)
theorem glue_ne (p : List UInt8) (ws : List (List UInt8)) : glue p ws ≠ [] := by cases ws <;> simp [glue]
theorem words_ne (c : UInt8) (l : List UInt8) : words c l ≠ [] := by
  cases l with
  | nil => simp [words]
  | cons b l => unfold words; split; simp; exact glue_ne _ _
theorem glue_nil {ws : List (List UInt8)} (h : ws ≠ []) : glue [] ws = ws := by
  cases ws with
  | nil => exact absurd rfl h
  | cons w ws => rfl
theorem glue_glue (p q : List UInt8) (ws : List (List UInt8)) : glue p (glue q ws) = glue (p ++ q) ws := by
  cases ws <;> simp [glue]
theorem words_none {c : UInt8} : ∀ {l : List UInt8}, c ∉ l → words c l = [l]
  | [], _ => rfl
  | b :: l, h => by
    simp only [List.mem_cons, not_or] at h
    unfold words
    rw [if_neg (fun e => h.1 e.symm), words_none h.2]
    rfl
theorem words_hit {c : UInt8} (r : List UInt8) : ∀ {a : List UInt8}, c ∉ a → words c (a ++ c :: r) = a :: words c r
  | [], _ => by show words c (c :: r) = _; rw [words, if_pos rfl]
  | b :: l, h => by
    simp only [List.mem_cons, not_or] at h
    show words c (b :: (l ++ c :: r)) = _
    rw [words, if_neg (fun e => h.1 e.symm), words_hit r h.2]
    rfl
theorem splitK_words (c : UInt8) : ∀ (n : Nat) (l : List UInt8), l.length ≤ n → Lib.splitK [c] 0 (Lib.count l [c]) l = words c l := by
  intro n
  induction n with
  | zero =>
    intro l hl
    have : l = [] := List.length_eq_zero_iff.1 (by omega)
    subst this
    have h : Lib.index [] [c] = -1 := rfl
    rw [Lib.count_miss h]
    rfl
  | succ n ih =>
    intro l hl
    have hge := Lib.index_ge l [c]
    by_cases h : Lib.index l [c] = -1
    · rw [Lib.count_miss h]
      rw [Lib.index_one] at h
      have hno := Lib.indexByte_none h
      rw [words_none (fun hm => by
        obtain ⟨k, hk⟩ := List.getElem?_of_mem hm
        exact hno k hk)]
      rfl
    · obtain ⟨i, hi⟩ : ∃ i : Nat, Lib.index l [c] = (i : Int) := ⟨(Lib.index l [c]).toNat, by omega⟩
      rw [Lib.count_hit (by simp) hi, Nat.add_comm, Lib.splitK]
      rw [if_neg (by rw [beq_iff_eq]; exact h), hi]
      have hi' := hi
      rw [Lib.index_one] at hi'
      obtain ⟨h1, h2⟩ := Lib.indexByte_some hi'
      have hlt : i < l.length := by
        rcases Nat.lt_or_ge i l.length with h | h
        · exact h
        · rw [List.getElem?_eq_none h] at h1; cases h1
      have hd : l.drop i = c :: l.drop (i + 1) := by
        rw [List.drop_eq_getElem_cons hlt]
        rw [List.getElem?_eq_getElem hlt] at h1
        injection h1 with h1
        rw [h1]
      have e : l = l.take i ++ c :: l.drop (i + 1) := by rw [← hd, List.take_append_drop]
      have hno : c ∉ l.take i := fun hm => by
        obtain ⟨k, hk⟩ := List.getElem?_of_mem hm
        have hki : k < i := by
          rcases Nat.lt_or_ge k i with h | h
          · exact h
          · rw [List.getElem?_take, if_neg (by omega)] at hk; cases hk
        rw [List.getElem?_take, if_pos hki] at hk
        exact h2 k hki hk
      have hw : words c l = l.take i :: words c (l.drop (i + 1)) := by
        conv => lhs; rw [e]
        exact words_hit _ hno
      rw [hw]
      simp only [Int.toNat_natCast, Nat.add_zero, List.length_singleton]
      rw [ih (l.drop (i + 1)) (by rw [List.length_drop]; omega)]
theorem splitB_words (c : UInt8) (l : List UInt8) : Lib.splitB (mkB [c]) 0 (Lib.countB (mkB l) (mkB [c])) (mkB l) = (words c l).map mkB := by
  have h := Lib.splitB_data (mkB [c]) 0 (Lib.countB (mkB l) (mkB [c])) (mkB l)
  rw [mkB_data, mkB_data] at h
  have hc : Lib.countB (mkB l) (mkB [c]) = Lib.count l [c] := by
    show Lib.count (mkB l).data.toList (mkB [c]).data.toList = _
    rw [mkB_data, mkB_data]
  rw [hc, splitK_words c l.length l (Nat.le_refl _)] at h
  rw [hc, ← h, List.map_map]
  have : (mkB ∘ fun x : ByteArray => x.data.toList) = id := by funext x; exact mkB_of x
  rw [this, List.map_id]
theorem eq_mkB {x : ByteArray} {l : List UInt8} (h : x.data.toList = l) : x = mkB l := by rw [← h, mkB_of]
theorem mkB_extract (l : List UInt8) (a b : Nat) : (mkB l).extract a b = mkB ((l.drop a).take (b - a)) := by
  apply eq_mkB
  rw [Lib.extract_data, mkB_data]
theorem bt_mk (l : List UInt8) (i : Nat) (h : i < l.length) : bt (mkB l) (i : Int) = ((l[i]).toNat : Int) := by
  unfold bt
  rw [dif_pos (by rw [mkB_size]; omega)]
  rfl
theorem split_ev (l : List UInt8) (c : UInt8) (hl : l.length ≤ 8000000000000) : Ev (fun k => spec_l01Split.f k (mkB l) (c.toNat : Int)) ((words c l).map mkB) := by
  unfold spec_l01Split.f
  have key := ev_forI (σ := List ByteArray × Nat) (n := l.length) (G := fun k s i => spec_l01Split.l0 k (mkB l) (c.toNat : Int) s.1 (s.2 : Int) i)
    (F := fun s i => s.1 ++ (glue ((l.drop s.2).take (i - s.2)) (words c (l.drop i))).map mkB) (I := fun s i => s.2 ≤ i ∧ s.1.length ≤ i) ?_ ?_ 0 (by omega) ([], 0) ⟨by omega, by simp⟩
  · simp only [List.nil_append, List.drop_zero, Nat.sub_self, List.take_zero] at key
    rw [glue_nil (words_ne _ _)] at key
    exact key
  · rintro i hi ih ⟨out, b⟩ ⟨hb, ho⟩
    dsimp only at hb ho ⊢
    refine Ev.step (fun k => by simp only [spec_l01Split.l0]; rfl) ?_
    refine ev_pos (by rw [mkB_size]; omega) (ev_pos (by omega) ?_)
    rw [bt_mk l i hi]
    have hd : l.drop i = l[i] :: l.drop (i + 1) := List.drop_eq_getElem_cons hi
    by_cases hc : l[i] = c
    · refine ev_pos (by rw [hc]) ?_
      refine ev_pos (by omega) (ev_pos (by omega) (ev_pos (by rw [mkB_size]; omega) (ev_pos (by omega) ?_)))
      rw [wrap_up hi (by omega), show ((b : Int)).toNat = b by omega, show ((i : Int)).toNat = i by omega, mkB_extract]
      have := ih (out ++ [mkB ((l.drop b).take (i - b))], i + 1) ⟨by dsimp only; omega, by simp; omega⟩
      dsimp only at this
      rw [show (((i + 1 : Nat)) : Int) = (i : Int) + 1 by omega] at this
      refine ev_eq this ?_
      rw [hd, words, if_pos hc, Nat.sub_self, List.take_zero, glue_nil (words_ne _ _)]
      simp [glue]
    · refine ev_neg (fun e => hc (UInt8.toNat_inj.1 (by omega))) ?_
      rw [wrap_up hi (by omega)]
      refine ev_eq (ih (out, b) ⟨by dsimp only; omega, by dsimp only; omega⟩) ?_
      dsimp only
      rw [hd, words, if_neg hc, glue_glue]
      congr 3
      rw [show i + 1 - b = (i - b) + 1 by omega, List.take_succ_eq_append_getElem (by rw [List.length_drop]; omega)]
      congr 2
      rw [List.getElem_drop]
      congr 1
      omega
  · rintro ⟨out, b⟩ ⟨hb, ho⟩
    dsimp only at hb ho ⊢
    refine Ev.step (fun k => by simp only [spec_l01Split.l0]; rfl) ?_
    refine ev_neg (by rw [mkB_size]; omega) (ev_pos (by omega) (ev_pos (by rw [mkB_size]; omega) (ev_pos (by omega) ?_)))
    rw [show ((b : Int)).toNat = b by omega, mkB_size, mkB_extract, List.drop_length]
    simp only [words, glue, List.append_nil, List.map_cons, List.map_nil]
    exact Ev.now _
theorem words_len (c : UInt8) (l : List UInt8) : (words c l).length ≤ l.length + 1 := by
  induction l with
  | nil => simp [words]
  | cons b l ih =>
    unfold words
    split
    · simp; omega
    · have := words_ne c l
      cases h : words c l with
      | nil => exact absurd h this
      | cons w ws => rw [h] at ih; simp [glue] at ih ⊢; omega
theorem words_join (c : UInt8) : ∀ (ws : List (List UInt8)), ws ≠ [] → (∀ w ∈ ws, c ∉ w) → words c (Lib.join ws [c]) = ws
  | [], h, _ => absurd rfl h
  | [w], _, h => by rw [Lib.join_one]; exact words_none (h w (by simp))
  | w :: v :: ws, _, h => by
    have e : Lib.join (w :: v :: ws) [c] = w ++ c :: Lib.join (v :: ws) [c] := by
      rw [Lib.join_cons, Lib.join_cons]
      simp [Lib.joinTail]
    rw [e, words_hit _ (h w (by simp)), words_join c (v :: ws) (by simp) (fun x hx => h x (List.mem_cons_of_mem _ hx))]
end Go.Proofs.YtfjmljgbdejghaaDoor.PuWordsReadHalf
