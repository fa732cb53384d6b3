/- Amounts that are read from texts: the program and the reference read just the texts of amounts, each as its amount. -/
import Derived.Test.YtfjmljgbdejghaaDoorMReadDebtsx0
import Derived.Test.YtfjmljgbdejghaaDoorMReadDebtsx3
import Derived.Test.YtfjmljgbdejghaaDoorMReadDebtsx6
import Derived.Test.YtfjmljgbdejghaaDoorMReadDebtsx7
import Derived.Test.YtfjmljgbdejghaaDoorVReadDebtsEv
import Derived.Test.YtfjmljgbdejghaaDoorPuBytReadDebts
import Derived.Test.YtfjmljgbdejghaaDoorPuWordsReadDebts
import Derived.Test.YtfjmljgbdejghaaDoorPuNumReadDebts
import Derived.Test.YtfjmljgbdejghaaDoorPuAmtReadDebts
namespace Go.Proofs.YtfjmljgbdejghaaDoor.PuReadReadDebts
open Go.RowKit Go.Proofs.YtfjmljgbdejghaaDoor.MReadDebts Go.Proofs.YtfjmljgbdejghaaDoorW.PrintWords Go.Proofs.YtfjmljgbdejghaaDoorW.PrintLast Go.Proofs.YtfjmljgbdejghaaDoor.Evs Go.Proofs.YtfjmljgbdejghaaDoor.PuBytReadDebts Go.Proofs.YtfjmljgbdejghaaDoor.PuWordsReadDebts Go.Proofs.YtfjmljgbdejghaaDoor.PuNumReadDebts Go.Proofs.YtfjmljgbdejghaaDoor.PuAmtReadDebts
set_option linter.unusedVariables false
set_option linter.unusedSimpArgs false

theorem ev_if {α : Type} {c : Prop} [Decidable c] {f g : Nat → Option α} {r : α} (h1 : c → Ev f r) (h2 : ¬ c → Ev g r) : Ev (fun n => if c then f n else g n) r := by
  by_cases h : c
  · exact ev_pos h (h1 h)
  · exact ev_neg h (h2 h)
theorem rdOf_mk (ws : List (List UInt8)) (i : Nat) (h : i < ws.length) : rdOf ByteArray.empty (ws.map mkB) (i : Int) = mkB (ws[i]) := by
  unfold rdOf
  rw [show ((i : Int)).toNat = i by omega, getD_lt _ _ _ (by simpa using h), List.getElem_map]
theorem lastB (l : List UInt8) (b : UInt8) : bt (mkB (l ++ [b])) (l.length : Int) = (b.toNat : Int) := by
  rw [bt_mk _ _ (by simp)]
  simp
theorem initB (l : List UInt8) (b : UInt8) : (mkB (l ++ [b])).extract 0 l.length = mkB l := by
  rw [mkB_extract]; simp
theorem split_last (w : List UInt8) (h : w ≠ []) : ∃ l b, w = l ++ [b] := ⟨w.dropLast, w.getLast h, (List.dropLast_concat_getLast h).symm⟩
theorem b_eq (b : UInt8) (n : UInt8) (h : (b.toNat : Int) = (n.toNat : Int)) : b = n := UInt8.toNat_inj.1 (by omega)
theorem b_ne (b : UInt8) (n : UInt8) (h : ¬ (b.toNat : Int) = (n.toNat : Int)) : b ≠ n := fun e => h (by rw [e])
/-- the worth of a letter -/
def unit (b : UInt8) : Option Int := if b = 100 then some 1 else if b = 115 then some 12 else if b = 108 then some 240 else none
def stepI (s : Int) (w : List UInt8) : Option Int :=
  if w = [] then none else
  if (numOf 9 w.dropLast).2 = true then (unit (w.getLast?.getD 0)).map fun u => wrap64 (s + wrap64 ((numOf 9 w.dropLast).1 * u)) else none
def runI (l : List UInt8) : Int → List (List UInt8) → Int × Int
  | s, [] => if amtT s = l then (s, 0) else (0, 5)
  | s, w :: ws => match stepI s w with | none => (0, 5) | some s' => runI l s' ws
def stepS (s : Int) (w : List UInt8) : Option Int :=
  if w.length < 2 then none else
  if (numOf 10 w.dropLast).2 = true ∧ ¬ (numOf 10 w.dropLast).1 > 100000000 then (unit (w.getLast?.getD 0)).map fun u => wrap64 (s + wrap64 ((numOf 10 w.dropLast).1 * u)) else none
def runS (l : List UInt8) : Int → List (List UInt8) → Int × Bool
  | s, [] => (s, decide (0 ≤ s ∧ s ≤ 100000000 ∧ amtL s.toNat = l))
  | s, w :: ws => match stepS s w with | none => (0, false) | some s' => runS l s' ws
theorem stepI_mk (s : Int) (l : List UInt8) (b : UInt8) : stepI s (l ++ [b]) = if (numOf 9 l).2 = true then (unit b).map fun u => wrap64 (s + wrap64 ((numOf 9 l).1 * u)) else none := by
  unfold stepI
  rw [if_neg (by simp), List.dropLast_concat]
  simp
theorem stepS_mk (s : Int) (l : List UInt8) (b : UInt8) : stepS s (l ++ [b]) = if l = [] then none else if (numOf 10 l).2 = true ∧ ¬ (numOf 10 l).1 > 100000000 then (unit b).map fun u => wrap64 (s + wrap64 ((numOf 10 l).1 * u)) else none := by
  unfold stepS
  rw [List.dropLast_concat]
  by_cases h : l = []
  · subst h; simp
  · rw [if_neg (by have := List.length_pos_iff.2 h; simp; omega), if_neg h]
    simp
theorem idx_dsl (b : UInt8) : strings_IndexByte.f (⟨#[100, 115, 108]⟩ : ByteArray) (b.toNat : Int) = some (if b = 100 then 0 else if b = 115 then 1 else if b = 108 then 2 else -1) := by
  have e : ((b.toNat : Int)).toNat.toUInt8 = b := by rw [Int.toNat_natCast]; exact UInt8.ofNat_toNat
  unfold strings_IndexByte.f
  rw [if_pos trivial, e]
  congr 1
  show Lib.indexByte [100, 115, 108] b = _
  by_cases h1 : b = 100
  · subst h1; rfl
  by_cases h2 : b = 115
  · subst h2; rfl
  by_cases h3 : b = 108
  · subst h3; rfl
  rw [if_neg h1, if_neg h2, if_neg h3]
  have e1 : ((100 : UInt8) == b) = false := by rw [beq_eq_false_iff_ne]; exact fun h => h1 h.symm
  have e2 : ((115 : UInt8) == b) = false := by rw [beq_eq_false_iff_ne]; exact fun h => h2 h.symm
  have e3 : ((108 : UInt8) == b) = false := by rw [beq_eq_false_iff_ne]; exact fun h => h3 h.symm
  simp [Lib.indexByte, e1, e2, e3]
theorem worth0 : impl_worth.f 0 = some 1 := by unfold impl_worth.f; rfl
theorem worth1 : impl_worth.f 1 = some 12 := by unfold impl_worth.f; rfl
theorem worth2 : impl_worth.f 2 = some 240 := by unfold impl_worth.f; rfl
theorem words_each (c : UInt8) : ∀ (l : List UInt8), ∀ w ∈ words c l, w.length ≤ l.length
  | [], w, h => by simp [words] at h; subst h; simp
  | b :: l, w, h => by
    unfold words at h
    split at h
    · rcases List.mem_cons.1 h with rfl | h
      · simp
      · have := words_each c l w h; simp; omega
    · cases hw : words c l with
      | nil => exact absurd hw (words_ne _ _)
      | cons v vs =>
        rw [hw] at h
        simp only [glue, List.mem_cons] at h
        rcases h with rfl | h
        · have := words_each c l v (by rw [hw]; simp); simp; omega
        · have := words_each c l w (by rw [hw]; simp [h]); simp; omega
theorem wl (a : List UInt8) (b : UInt8) (h : (a ++ [b]).length ≤ 4000000000000) : wrap64 (((mkB (a ++ [b])).size : Int) - 1) = (a.length : Int) := by
  rw [mkB_size, List.length_append, List.length_singleton]
  rw [List.length_append, List.length_singleton] at h
  rw [wrap_id (by omega) (by omega)]; omega
theorem unit_cases (b : UInt8) : (b = 100 ∧ unit b = some 1) ∨ (b = 115 ∧ unit b = some 12) ∨ (b = 108 ∧ unit b = some 240) ∨ (b ≠ 100 ∧ b ≠ 115 ∧ b ≠ 108 ∧ unit b = none) := by
  unfold unit
  by_cases h1 : b = 100
  · exact .inl ⟨h1, by rw [if_pos h1]⟩
  by_cases h2 : b = 115
  · exact .inr (.inl ⟨h2, by rw [if_neg h1, if_pos h2]⟩)
  by_cases h3 : b = 108
  · exact .inr (.inr (.inl ⟨h3, by rw [if_neg h1, if_neg h2, if_pos h3]⟩))
  · exact .inr (.inr (.inr ⟨h1, h2, h3, by rw [if_neg h1, if_neg h2, if_neg h3]⟩))
theorem loopRI (l : List UInt8) (ws : List (List UInt8)) (hn : ws.length ≤ 4000000000000) (hw : ∀ w ∈ ws, w.length ≤ 4000000000000) :
    Ev (fun k => impl_ReadAmount.l0 k (mkB l) 0 (ws.map mkB) (ws.length : Int) 0) (runI l 0 ws) := by
  have key := ev_for (σ := Int) (n := ws.length) (G := fun k s i => impl_ReadAmount.l0 k (mkB l) s (ws.map mkB) (ws.length : Int) i) (F := fun s i => runI l s (ws.drop i)) ?_ ?_ 0 (by omega) 0
  · exact key
  · intro i hi ih s
    refine Ev.step (fun k => by simp only [impl_ReadAmount.l0]; rfl) ?_
    refine ev_pos (by omega) (ev_pos (by omega) (ev_pos (by rw [List.length_map]; omega) ?_))
    rw [rdOf_mk ws i hi, List.drop_eq_getElem_cons hi, wrap_up hi (by omega)]
    have hlen := hw _ (List.getElem_mem hi)
    show Ev _ (match stepI s ws[i] with | none => (0, 5) | some s' => runI l s' (ws.drop (i + 1)))
    generalize ws[i] = w at hlen ⊢
    refine ev_if (fun h0 => ?_) (fun h0 => ?_)
    · rw [mkB_toList] at h0
      have : stepI s w = none := by unfold stepI; rw [if_pos h0]
      rw [this]; exact Ev.now _
    rw [mkB_toList] at h0
    obtain ⟨a, b, rfl⟩ := split_last _ h0
    have hl1 : ((mkB (a ++ [b])).size : Int) = (a.length : Int) + 1 := by rw [mkB_size]; simp
    rw [wl a b hlen, stepI_mk]
    refine ev_pos (by omega) (ev_pos (by rw [hl1]; omega) ?_)
    rw [Int.toNat_natCast, initB]
    refine Ev.bind (numI_ev a) (ev_pos (by rw [hl1]; omega) ?_)
    rw [lastB]
    refine ev_bind0 (idx_dsl b) ?_
    by_cases hok : (numOf 9 a).2 = true
    · refine ev_pos hok ?_
      rw [if_pos hok]
      rcases unit_cases b with ⟨hb, hu⟩ | ⟨hb, hu⟩ | ⟨hb, hu⟩ | ⟨h1, h2, h3, hu⟩
      · subst hb
        rw [hu, if_pos rfl]
        exact ev_neg (by omega) (ev_bind0 worth0 (ih _))
      · subst hb
        rw [hu, if_neg (by decide), if_pos rfl]
        exact ev_neg (by omega) (ev_bind0 worth1 (ih _))
      · subst hb
        rw [hu, if_neg (by decide), if_neg (by decide), if_pos rfl]
        exact ev_neg (by omega) (ev_bind0 worth2 (ih _))
      · rw [hu, if_neg h1, if_neg h2, if_neg h3]
        exact ev_pos (by omega) (Ev.now _)
    · refine ev_neg hok ?_
      rw [if_neg hok]
      exact Ev.now _
  · intro s
    refine Ev.step (fun k => by simp only [impl_ReadAmount.l0]; rfl) ?_
    refine ev_neg (by omega) ?_
    rw [List.drop_length]
    refine Ev.bind (implText_ev s) ?_
    show Ev _ (if amtT s = l then (s, 0) else (0, 5))
    refine ev_if (fun h => ?_) (fun h => ?_)
    · rw [mkB_toList, mkB_toList] at h
      rw [if_pos h]; exact Ev.now _
    · rw [mkB_toList, mkB_toList] at h
      rw [if_neg h]; exact Ev.now _
theorem loopRS (l : List UInt8) (ws : List (List UInt8)) (hn : ws.length ≤ 4000000000000) (hw : ∀ w ∈ ws, w.length ≤ 4000000000000) :
    Ev (fun k => spec_l01ReadAmount.l0 k (mkB l) (ws.map mkB) 0 0) (runS l 0 ws) := by
  have key := ev_for (σ := Int) (n := ws.length) (G := fun k s i => spec_l01ReadAmount.l0 k (mkB l) (ws.map mkB) s i) (F := fun s i => runS l s (ws.drop i)) ?_ ?_ 0 (by omega) 0
  · exact key
  · intro i hi ih s
    refine Ev.step (fun k => by simp only [spec_l01ReadAmount.l0]; rfl) ?_
    refine ev_pos (by rw [List.length_map]; omega) (ev_pos (by omega) ?_)
    have hr := rdOf_mk ws i hi
    rw [hr, List.drop_eq_getElem_cons hi]
    have hlen := hw _ (List.getElem_mem hi)
    show Ev _ (match stepS s ws[i] with | none => (0, false) | some s' => runS l s' (ws.drop (i + 1)))
    generalize ws[i] = w at hlen hr ⊢
    refine ev_if (fun h0 => ?_) (fun h0 => ?_)
    · have : stepS s w = none := by unfold stepS; rw [if_pos (by rw [mkB_size] at h0; omega)]
      rw [this]; exact Ev.now _
    have h0' : w ≠ [] := by rintro rfl; rw [mkB_size] at h0; simp at h0
    obtain ⟨a, b, rfl⟩ := split_last _ h0'
    have ha : a ≠ [] := by rintro rfl; rw [mkB_size] at h0; simp at h0
    have hl1 : ((mkB (a ++ [b])).size : Int) = (a.length : Int) + 1 := by rw [mkB_size]; simp
    have hwl := wl a b hlen
    rw [hwl, stepS_mk, if_neg ha]
    refine ev_pos (by omega) (ev_pos (by rw [hl1]; omega) ?_)
    rw [Int.toNat_natCast, initB]
    refine Ev.bind (numS_ev a) ?_
    have stop : Ev (fun k => spec_l01ReadAmount.j1 k (mkB l) (ws.map mkB) s (i : Int) ((mkB (a ++ [b])).size : Int) (numOf 10 a).1 true) (0, false) := by
      exact Ev.step (fun k => rfl) (Ev.now _)
    by_cases hok : (numOf 10 a).2 = true
    · refine ev_pos hok ?_
      by_cases hbig : (numOf 10 a).1 > 100000000
      · rw [if_neg (fun h => h.2 hbig), decide_eq_true hbig]
        exact stop
      rw [if_pos ⟨hok, hbig⟩, decide_eq_false hbig]
      refine Ev.step (fun k => by simp only [spec_l01ReadAmount.j1]; rfl) ?_
      refine ev_neg (by decide) (ev_pos (by omega) (ev_pos (by rw [List.length_map]; omega) ?_))
      rw [hr, hwl]
      refine ev_pos (by omega) (ev_pos (by rw [hl1]; omega) ?_)
      rw [lastB, wrap_up hi (by omega)]
      rcases unit_cases b with ⟨hb, hu⟩ | ⟨hb, hu⟩ | ⟨hb, hu⟩ | ⟨h1, h2, h3, hu⟩
      · subst hb
        rw [hu]
        refine ev_neg (by decide) (ev_neg (by decide) (ev_pos (by decide) ?_))
        have hx := num_bound 10 a
        have := ih (wrap64 (s + wrap64 ((numOf 10 a).1 * 1)))
        rw [Int.mul_one, wrap_id (x := (numOf 10 a).1) (by omega) (by omega)] at this
        rw [Option.map_some]
        dsimp only
        rw [Int.mul_one, wrap_id (x := (numOf 10 a).1) (by omega) (by omega)]
        exact this
      · subst hb
        rw [hu]
        refine ev_neg (by decide) (ev_pos (by decide) ?_)
        rw [Option.map_some, Int.mul_comm]
        exact ih _
      · subst hb
        rw [hu]
        refine ev_pos (by decide) ?_
        rw [Option.map_some, Int.mul_comm]
        exact ih _
      · rw [hu]
        exact ev_neg (fun e => h3 (b_eq b 108 e)) (ev_neg (fun e => h2 (b_eq b 115 e)) (ev_neg (fun e => h1 (b_eq b 100 e)) (Ev.now _)))
    · refine ev_neg hok ?_
      rw [if_neg (fun h => hok h.1)]
      exact stop
  · intro s
    refine Ev.step (fun k => by simp only [spec_l01ReadAmount.l0]; rfl) ?_
    refine ev_neg (by rw [List.length_map]; omega) ?_
    rw [List.drop_length]
    refine ev_bind0 (isAmt s) ?_
    show Ev _ (s, decide (0 ≤ s ∧ s ≤ 100000000 ∧ amtL s.toNat = l))
    by_cases h : 0 ≤ s ∧ s ≤ 100000000
    · refine ev_pos (by simpa using h) ?_
      have ht := l01Text_ev s.toNat (by omega)
      rw [show ((s.toNat : Nat) : Int) = s by omega] at ht
      refine Ev.bind ht ?_
      rw [mkB_toList, mkB_toList]
      refine ev_eq (Ev.now _) ?_
      congr 1
      by_cases he : amtL s.toNat = l
      · rw [decide_eq_true ⟨h.1, h.2, he⟩]; simpa using he
      · rw [decide_eq_false (fun hh => he hh.2.2)]; simpa using he
    · refine ev_neg (by simpa using h) ?_
      rw [decide_eq_false (fun hh => h ⟨hh.1, hh.2.1⟩)]
      exact Ev.now _
/-! what both read -/
theorem runI_end (l : List UInt8) : ∀ (ws : List (List UInt8)) (s : Int), runI l s ws = (0, 5) ∨ ∃ s', amtT s' = l ∧ runI l s ws = (s', 0)
  | [], s => by
    unfold runI
    by_cases h : amtT s = l
    · rw [if_pos h]; exact .inr ⟨s, h, rfl⟩
    · rw [if_neg h]; exact .inl rfl
  | w :: ws, s => by
    show (match stepI s w with | none => (0, 5) | some s' => runI l s' ws) = _ ∨ ∃ s', _ ∧ (match stepI s w with | none => (0, 5) | some s' => runI l s' ws) = _
    cases stepI s w with
    | none => exact .inl rfl
    | some s' => exact runI_end l ws s'
theorem runS_end (l : List UInt8) : ∀ (ws : List (List UInt8)) (s : Int), (runS l s ws).2 = false ∨ ∃ s' : Int, (0 ≤ s' ∧ s' ≤ 100000000 ∧ amtL s'.toNat = l) ∧ runS l s ws = (s', true)
  | [], s => by
    unfold runS
    by_cases h : 0 ≤ s ∧ s ≤ 100000000 ∧ amtL s.toNat = l
    · exact .inr ⟨s, h, by rw [decide_eq_true h]⟩
    · exact .inl (by rw [decide_eq_false h])
  | w :: ws, s => by
    show (match stepS s w with | none => (0, false) | some s' => runS l s' ws).2 = false ∨ ∃ s' : Int, _ ∧ (match stepS s w with | none => (0, false) | some s' => runS l s' ws) = _
    cases stepS s w with
    | none => exact .inl rfl
    | some s' => exact runS_end l ws s'
theorem wd_step (s : Int) (n : Nat) (u : UInt8) (v : Int) (hn : n < 1000000000) (hu : unit u = some v) (h0 : 0 ≤ s) (hs : s ≤ 1000000000000) (hv : 0 ≤ v ∧ v ≤ 240) :
    stepI s (Lib.decDigits n ++ [u]) = some (s + (n : Int) * v) := by
  have hl := dec_len 8 n (by omega)
  rw [stepI_mk, num_dec 9 n (by omega), if_pos rfl, hu]
  have : (0 : Int) ≤ (n : Int) * v := Int.mul_nonneg (by omega) hv.1
  have h2 : (n : Int) * v ≤ (n : Int) * 240 := Int.mul_le_mul_of_nonneg_left hv.2 (by omega)
  rw [Option.map_some, wrap_id (x := (n : Int) * v) (by omega) (by omega), wrap_id (by omega) (by omega)]
theorem wd_stepS (s : Int) (n : Nat) (u : UInt8) (v : Int) (hn : n ≤ 100000000) (hu : unit u = some v) (h0 : 0 ≤ s) (hs : s ≤ 1000000000000) (hv : 0 ≤ v ∧ v ≤ 240) :
    stepS s (Lib.decDigits n ++ [u]) = some (s + (n : Int) * v) := by
  have hl := dec_len 8 n (by omega)
  rw [stepS_mk, if_neg (dec_ne n), num_dec 10 n (by omega), if_pos ⟨rfl, by omega⟩, hu]
  have : (0 : Int) ≤ (n : Int) * v := Int.mul_nonneg (by omega) hv.1
  have h2 : (n : Int) * v ≤ (n : Int) * 240 := Int.mul_le_mul_of_nonneg_left hv.2 (by omega)
  rw [Option.map_some, wrap_id (x := (n : Int) * v) (by omega) (by omega), wrap_id (by omega) (by omega)]
theorem runI_wd (l : List UInt8) (s : Int) (n : Nat) (u : UInt8) (v : Int) (ws : List (List UInt8)) (hn : n < 1000000000) (hu : unit u = some v) (h0 : 0 ≤ s) (hs : s ≤ 1000000000000) (hv : 0 ≤ v ∧ v ≤ 240) :
    runI l s (wd n u ++ ws) = runI l (s + (n : Int) * v) ws := by
  unfold wd
  by_cases h : n = 0
  · rw [if_pos h, h]; simp
  · rw [if_neg h]
    show (match stepI s (Lib.decDigits n ++ [u]) with | none => (0, 5) | some s' => runI l s' ws) = _
    rw [wd_step s n u v hn hu h0 hs hv]
theorem runS_wd (l : List UInt8) (s : Int) (n : Nat) (u : UInt8) (v : Int) (ws : List (List UInt8)) (hn : n ≤ 100000000) (hu : unit u = some v) (h0 : 0 ≤ s) (hs : s ≤ 1000000000000) (hv : 0 ≤ v ∧ v ≤ 240) :
    runS l s (wd n u ++ ws) = runS l (s + (n : Int) * v) ws := by
  unfold wd
  by_cases h : n = 0
  · rw [if_pos h, h]; simp
  · rw [if_neg h]
    show (match stepS s (Lib.decDigits n ++ [u]) with | none => (0, false) | some s' => runS l s' ws) = _
    rw [wd_stepS s n u v hn hu h0 hs hv]
def amtW (a : Nat) : List (List UInt8) := if a = 0 then [[48, 100]] else wd (a / 240) 108 ++ (wd (a / 12 % 20) 115 ++ wd (a % 12) 100)
theorem dig_no (n : Nat) (c : UInt8) (hc : isD c = false) : c ∉ Lib.decDigits n := by
  intro h
  have := dec_digs n
  unfold digs at this
  rw [List.all_eq_true] at this
  rw [this c h] at hc
  cases hc
theorem wd_no (n : Nat) (u : UInt8) (hu : u ≠ 32) : ∀ w ∈ wd n u, (32 : UInt8) ∉ w := by
  intro w hw
  unfold wd at hw
  split at hw
  · cases hw
  · simp only [List.mem_singleton] at hw
    subst hw
    simp only [List.mem_append, List.mem_singleton, not_or]
    exact ⟨dig_no n 32 (by decide), fun h => hu h.symm⟩
theorem amtW_words (a : Nat) : words 32 (amtL a) = amtW a := by
  unfold amtL amtW
  by_cases h : a = 0
  · rw [if_pos h, if_pos h]; decide
  · rw [if_neg h, if_neg h, ← join3 a]
    refine words_join 32 _ ?_ ?_
    · unfold wd
      intro e
      have h1 : a / 240 = 0 := by
        by_cases h1 : a / 240 = 0
        · exact h1
        · rw [if_neg h1] at e; simp at e
      have h2 : a / 12 % 20 = 0 := by
        by_cases h2 : a / 12 % 20 = 0
        · exact h2
        · rw [if_neg h2] at e; simp at e
      have h3 : a % 12 = 0 := by
        by_cases h3 : a % 12 = 0
        · exact h3
        · rw [if_neg h3] at e; simp at e
      omega
    · intro w hw
      simp only [List.mem_append] at hw
      rcases hw with hw | hw | hw
      · exact wd_no _ _ (by decide) w hw
      · exact wd_no _ _ (by decide) w hw
      · exact wd_no _ _ (by decide) w hw
theorem amt_sum (a : Nat) : (0 : Int) + ((a / 240 : Nat) : Int) * 240 + ((a / 12 % 20 : Nat) : Int) * 12 + ((a % 12 : Nat) : Int) * 1 = (a : Int) := by omega
theorem amtT_nat (a : Nat) (h : a ≤ 100000000) : amtT (a : Int) = amtL a := by
  unfold amtT
  rw [if_pos (by omega), Int.toNat_natCast]
theorem runI_amt (a : Nat) (h : a ≤ 100000000) : runI (amtL a) 0 (amtW a) = ((a : Int), 0) := by
  have fin : ∀ s : Int, s = (a : Int) → runI (amtL a) s [] = ((a : Int), 0) := by
    rintro s rfl
    unfold runI
    rw [if_pos (amtT_nat a h)]
  unfold amtW
  by_cases h0 : a = 0
  · subst h0
    rw [if_pos rfl]
    show (match stepI 0 ([48] ++ [100]) with | none => (0, 5) | some s' => runI (amtL 0) s' []) = _
    rw [stepI_mk, show numOf 9 [48] = ((0 : Int), true) by decide, if_pos rfl]
    exact fin _ (by show wrap64 (0 + wrap64 ((0 : Int) * 1)) = 0; unfold wrap64; omega)
  · rw [if_neg h0]
    rw [runI_wd _ _ _ _ 240 _ (by omega) rfl (by omega) (by omega) (by omega)]
    rw [runI_wd _ _ _ _ 12 _ (by omega) rfl (by omega) (by omega) (by omega)]
    have := runI_wd (amtL a) ((0 : Int) + ((a / 240 : Nat) : Int) * 240 + ((a / 12 % 20 : Nat) : Int) * 12) (a % 12) 100 1 [] (by omega) rfl (by omega) (by omega) (by omega)
    rw [List.append_nil] at this
    rw [this]
    exact fin _ (amt_sum a)
theorem runS_amt (a : Nat) (h : a ≤ 100000000) : runS (amtL a) 0 (amtW a) = ((a : Int), true) := by
  have fin : ∀ s : Int, s = (a : Int) → runS (amtL a) s [] = ((a : Int), true) := by
    rintro s rfl
    unfold runS
    rw [decide_eq_true ⟨by omega, by omega, by rw [Int.toNat_natCast]⟩]
  unfold amtW
  by_cases h0 : a = 0
  · subst h0
    rw [if_pos rfl]
    show (match stepS 0 ([48] ++ [100]) with | none => (0, false) | some s' => runS (amtL 0) s' []) = _
    rw [stepS_mk, if_neg (by simp), show numOf 10 [48] = ((0 : Int), true) by decide, if_pos ⟨rfl, by omega⟩]
    exact fin _ (by show wrap64 (0 + wrap64 ((0 : Int) * 1)) = 0; unfold wrap64; omega)
  · rw [if_neg h0]
    rw [runS_wd _ _ _ _ 240 _ (by omega) rfl (by omega) (by omega) (by omega)]
    rw [runS_wd _ _ _ _ 12 _ (by omega) rfl (by omega) (by omega) (by omega)]
    have := runS_wd (amtL a) ((0 : Int) + ((a / 240 : Nat) : Int) * 240 + ((a / 12 % 20 : Nat) : Int) * 12) (a % 12) 100 1 [] (by omega) rfl (by omega) (by omega) (by omega)
    rw [List.append_nil] at this
    rw [this]
    exact fin _ (amt_sum a)
/-- the amount with a text -/
noncomputable def readA (l : List UInt8) : Option Nat := open Classical in if h : ∃ a : Nat, a ≤ 100000000 ∧ amtL a = l then some h.choose else none
theorem readA_amt (a : Nat) (h : a ≤ 100000000) : readA (amtL a) = some a := by
  have hx : ∃ b : Nat, b ≤ 100000000 ∧ amtL b = amtL a := ⟨a, h, rfl⟩
  unfold readA
  rw [dif_pos hx]
  have h2 := hx.choose_spec
  have e1 := runI_amt hx.choose h2.1
  have e2 := runI_amt a h
  have ew : amtW hx.choose = amtW a := by rw [← amtW_words, ← amtW_words, h2.2]
  rw [h2.2, ew, e2] at e1
  injection e1 with e1
  congr 1
  omega
theorem readA_none (l : List UInt8) (h : ¬ ∃ a : Nat, a ≤ 100000000 ∧ amtL a = l) : readA l = none := by
  unfold readA
  rw [dif_neg h]
def readIO : Option Nat → Int × Int
  | some a => ((a : Int), 0)
  | none => (0, 5)
noncomputable def readI (l : List UInt8) : Int × Int := readIO (readA l)
theorem readI_some {l : List UInt8} {a : Nat} (h : readA l = some a) : readI l = ((a : Int), 0) := by
  unfold readI
  rw [h]
  rfl
theorem readI_none {l : List UInt8} (h : readA l = none) : readI l = (0, 5) := by
  unfold readI
  rw [h]
  rfl
theorem amtL_ne (a : Nat) : amtL a ≠ [] := by
  intro h
  have := amtW_words a
  rw [h] at this
  unfold amtW at this
  by_cases h0 : a = 0
  · rw [if_pos h0] at this; simp [words] at this
  · rw [if_neg h0] at this
    have : words 32 [] = [[]] := rfl
    unfold amtL at h
    rw [if_neg h0] at h
    rw [← join3] at h
    have hh := words_join 32 (wd (a / 240) 108 ++ (wd (a / 12 % 20) 115 ++ wd (a % 12) 100))
    rename_i t1
    rw [show words 32 [] = [[]] from rfl] at t1
    have hm : ([] : List UInt8) ∈ wd (a / 240) 108 ++ (wd (a / 12 % 20) 115 ++ wd (a % 12) 100) := by rw [← t1]; simp
    simp only [List.mem_append] at hm
    have nm : ∀ (n : Nat) (u : UInt8), ([] : List UInt8) ∉ wd n u := by
      intro n u hm
      unfold wd at hm
      split at hm
      · cases hm
      · simp at hm
    rcases hm with hm | hm | hm
    · exact nm _ _ hm
    · exact nm _ _ hm
    · exact nm _ _ hm
theorem runI_all (l : List UInt8) : runI l 0 (words 32 l) = readI l := by
  by_cases h : ∃ a : Nat, a ≤ 100000000 ∧ amtL a = l
  · obtain ⟨a, ha, rfl⟩ := h
    rw [amtW_words, runI_amt a ha, readI_some (readA_amt a ha)]
  · rw [readI_none (readA_none l h)]
    rcases runI_end l (words 32 l) 0 with e | ⟨s', hs, e⟩
    · exact e
    · exfalso
      unfold amtT at hs
      by_cases hr : 0 ≤ s' ∧ s' ≤ 100000000
      · rw [if_pos hr] at hs
        exact h ⟨s'.toNat, by omega, hs⟩
      · rw [if_neg hr] at hs
        subst hs
        have h5 : runI [] 0 (words 32 []) = (0, 5) := rfl
        rw [h5] at e
        have h6 : (5 : Int) = 0 := congrArg Prod.snd e
        omega
theorem runS_all (l : List UInt8) : (runS l 0 (words 32 l)).2 = (readA l).isSome ∧ ∀ a, readA l = some a → runS l 0 (words 32 l) = ((a : Int), true) := by
  by_cases h : ∃ a : Nat, a ≤ 100000000 ∧ amtL a = l
  · obtain ⟨a, ha, rfl⟩ := h
    rw [amtW_words, runS_amt a ha, readA_amt a ha]
    exact ⟨rfl, fun b hb => by injection hb with hb; rw [hb]⟩
  · rw [readA_none l h]
    refine ⟨?_, fun a ha => by cases ha⟩
    rcases runS_end l (words 32 l) 0 with e | ⟨s', hs, e⟩
    · exact e
    · exact absurd ⟨s'.toNat, by omega, hs.2.2⟩ h
theorem readA_le (l : List UInt8) (a : Nat) (h : readA l = some a) : a ≤ 100000000 ∧ amtL a = l := by
  by_cases hx : ∃ a : Nat, a ≤ 100000000 ∧ amtL a = l
  · obtain ⟨b, hb, rfl⟩ := hx
    rw [readA_amt b hb] at h
    injection h with h
    subst h
    exact ⟨hb, rfl⟩
  · rw [readA_none l hx] at h; cases h
theorem implRead_ev (l : List UInt8) (hl : l.length ≤ 1000000000) : Ev (fun k => impl_ReadAmount.f k (mkB l)) (readI l) := by
  unfold impl_ReadAmount.f
  refine ev_if (fun h => ?_) (fun h => ?_)
  · have : readI l = (0, 5) := by
      refine readI_none (readA_none l ?_)
      rintro ⟨a, ha, rfl⟩
      have := amtL_len a ha
      rw [mkB_size] at h
      omega
    rw [this]; exact Ev.now _
  · have hs : strings_Split.f (mkB l) (⟨#[32]⟩ : ByteArray) = some ((words 32 l).map mkB) := by
      unfold strings_Split.f
      rw [if_pos ⟨by rw [mkB_size]; omega, by decide⟩]
      congr 1
      exact splitB_words 32 l
    refine ev_bind0 hs ?_
    have hn := words_len 32 l
    rw [List.length_map]
    rw [← runI_all l]
    exact loopRI l (words 32 l) (by omega) (fun w hw => by have := words_each 32 l w hw; omega)
theorem specRead_ev (l : List UInt8) (hl : l.length ≤ 1000000000) : Ev (fun k => spec_l01ReadAmount.f k (mkB l)) (runS l 0 (words 32 l)) := by
  unfold spec_l01ReadAmount.f
  refine Ev.bind (split_ev l 32 (by omega)) ?_
  have hn := words_len 32 l
  exact loopRS l (words 32 l) (by omega) (fun w hw => by have := words_each 32 l w hw; omega)

end Go.Proofs.YtfjmljgbdejghaaDoor.PuReadReadDebts
