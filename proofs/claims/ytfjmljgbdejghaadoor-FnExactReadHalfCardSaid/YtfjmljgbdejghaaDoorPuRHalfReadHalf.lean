/- Halves that are read from texts: what the program and the reference read is one. -/
import Derived.Test.YtfjmljgbdejghaaDoorMReadHalfx0
import Derived.Test.YtfjmljgbdejghaaDoorMReadHalfx4
import Derived.Test.YtfjmljgbdejghaaDoorMReadHalfx5
import Derived.Test.YtfjmljgbdejghaaDoorMReadHalfx6
import Derived.Test.YtfjmljgbdejghaaDoorMReadHalfx8
import Derived.Test.YtfjmljgbdejghaaDoorVReadHalfEv
import Derived.Test.YtfjmljgbdejghaaDoorPuGrainReadHalf
import Derived.Test.YtfjmljgbdejghaaDoorPuNotchReadHalf
import Derived.Test.YtfjmljgbdejghaaDoorPuBytReadHalf
import Derived.Test.YtfjmljgbdejghaaDoorPuWordsReadHalf
import Derived.Test.YtfjmljgbdejghaaDoorPuNumReadHalf
import Derived.Test.YtfjmljgbdejghaaDoorPuBigReadHalf
import Derived.Test.YtfjmljgbdejghaaDoorPuRdReadHalf
namespace Go.Proofs.YtfjmljgbdejghaaDoor.PuRHalfReadHalf
open Go.RowKit Go.Proofs.YtfjmljgbdejghaaDoor.MReadHalf Go.Proofs.YtfjmljgbdejghaaDoorW.PrintWords Go.Proofs.YtfjmljgbdejghaaDoorW.PrintLast Go.Proofs.YtfjmljgbdejghaaDoor.Evs Go.Proofs.YtfjmljgbdejghaaDoor.PuGrainReadHalf Go.Proofs.YtfjmljgbdejghaaDoor.PuNotchReadHalf Go.Proofs.YtfjmljgbdejghaaDoor.PuBytReadHalf Go.Proofs.YtfjmljgbdejghaaDoor.PuWordsReadHalf Go.Proofs.YtfjmljgbdejghaaDoor.PuNumReadHalf Go.Proofs.YtfjmljgbdejghaaDoor.PuBigReadHalf Go.Proofs.YtfjmljgbdejghaaDoor.PuRdReadHalf
set_option linter.unusedVariables false
set_option linter.unusedSimpArgs false

theorem evb_pos {α β : Type} {c : Prop} [Decidable c] {f g : Nat → Option α} {h : α → Option β} {r : β} (hc : c) (k : Ev (fun n => (f n).bind h) r) : Ev (fun n => (if c then f n else g n).bind h) r := by
  simpa only [if_pos hc] using k
theorem evb_neg {α β : Type} {c : Prop} [Decidable c] {f g : Nat → Option α} {h : α → Option β} {r : β} (hc : ¬ c) (k : Ev (fun n => (g n).bind h) r) : Ev (fun n => (if c then f n else g n).bind h) r := by
  simpa only [if_neg hc] using k
theorem evb_bind {α β γ : Type} {g : Nat → Option α} {f : Nat → α → Option β} {h : β → Option γ} {a : α} {r : γ} (hg : Ev g a) (k : Ev (fun n => (f n a).bind h) r) : Ev (fun n => ((g n).bind (f n)).bind h) r := by
  refine Ev.congr (f := fun n => (g n).bind fun x => (f n x).bind h) (fun n => Option.bind_assoc _ _ _) ?_
  exact Ev.bind hg k
theorem evb_now {α β : Type} {a : α} {h : α → Option β} {r : β} (k : h a = some r) : Ev (fun _ => (some a).bind h) r := by
  rw [Option.bind_some, k]; exact Ev.now _
/-! letters and notches -/
def L6 : List UInt8 := [100, 115, 108, 118, 99, 109]
def kindOf (b : UInt8) : Option Nat := if b = 100 then some 0 else if b = 115 then some 1 else if b = 108 then some 2 else if b = 118 then some 3 else if b = 99 then some 4 else if b = 109 then some 5 else none
theorem idx6 (b : UInt8) : strings_IndexByte.f (⟨#[100, 115, 108, 118, 99, 109]⟩ : ByteArray) (b.toNat : Int) = some (match kindOf b with | some k => (k : Int) | none => -1) := by
  have e : ((b.toNat : Int)).toNat.toUInt8 = b := by rw [Int.toNat_natCast]; exact UInt8.ofNat_toNat
  unfold strings_IndexByte.f
  rw [if_pos trivial, e]
  congr 1
  show Lib.indexByte [100, 115, 108, 118, 99, 109] b = _
  unfold kindOf
  by_cases h1 : b = 100
  · subst h1; rfl
  by_cases h2 : b = 115
  · subst h2; rfl
  by_cases h3 : b = 108
  · subst h3; rfl
  by_cases h4 : b = 118
  · subst h4; rfl
  by_cases h5 : b = 99
  · subst h5; rfl
  by_cases h6 : b = 109
  · subst h6; rfl
  rw [if_neg h1, if_neg h2, if_neg h3, if_neg h4, if_neg h5, if_neg h6]
  have e1 : ((100 : UInt8) == b) = false := by rw [beq_eq_false_iff_ne]; exact fun h => h1 h.symm
  have e2 : ((115 : UInt8) == b) = false := by rw [beq_eq_false_iff_ne]; exact fun h => h2 h.symm
  have e3 : ((108 : UInt8) == b) = false := by rw [beq_eq_false_iff_ne]; exact fun h => h3 h.symm
  have e4 : ((118 : UInt8) == b) = false := by rw [beq_eq_false_iff_ne]; exact fun h => h4 h.symm
  have e5 : ((99 : UInt8) == b) = false := by rw [beq_eq_false_iff_ne]; exact fun h => h5 h.symm
  have e6 : ((109 : UInt8) == b) = false := by rw [beq_eq_false_iff_ne]; exact fun h => h6 h.symm
  simp [Lib.indexByte, e1, e2, e3, e4, e5, e6]
theorem kindOf_lt {b : UInt8} {k : Nat} (h : kindOf b = some k) : k < 6 := by
  unfold kindOf at h
  repeat' split at h
  all_goals first | (injection h with h; omega) | cases h
theorem kindOf_get (b : UInt8) : (∃ k, ∃ h : k < 6, kindOf b = some k ∧ L6[k]'h = b ∧ ∀ j, ∀ hj : j < k, L6[j]'(Nat.lt_trans hj h) ≠ b) ∨ (kindOf b = none ∧ ∀ j, ∀ hj : j < 6, L6[j]'hj ≠ b) := by
  have all : ∀ b : UInt8, (∃ k, ∃ h : k < 6, kindOf b = some k ∧ L6[k]'h = b ∧ ∀ j, ∀ hj : j < k, L6[j]'(Nat.lt_trans hj h) ≠ b) ∨ (kindOf b = none ∧ ∀ j, ∀ hj : j < 6, L6[j]'hj ≠ b) := by
    intro b
    by_cases h1 : b = 100
    · subst h1; exact .inl ⟨0, by decide, by decide, by decide, by decide⟩
    by_cases h2 : b = 115
    · subst h2; exact .inl ⟨1, by decide, by decide, by decide, by decide⟩
    by_cases h3 : b = 108
    · subst h3; exact .inl ⟨2, by decide, by decide, by decide, by decide⟩
    by_cases h4 : b = 118
    · subst h4; exact .inl ⟨3, by decide, by decide, by decide, by decide⟩
    by_cases h5 : b = 99
    · subst h5; exact .inl ⟨4, by decide, by decide, by decide, by decide⟩
    by_cases h6 : b = 109
    · subst h6; exact .inl ⟨5, by decide, by decide, by decide, by decide⟩
    refine .inr ⟨by unfold kindOf; rw [if_neg h1, if_neg h2, if_neg h3, if_neg h4, if_neg h5, if_neg h6], ?_⟩
    intro j hj
    have : j = 0 ∨ j = 1 ∨ j = 2 ∨ j = 3 ∨ j = 4 ∨ j = 5 := by omega
    rcases this with rfl | rfl | rfl | rfl | rfl | rfl
    · exact fun e => h1 e.symm
    · exact fun e => h2 e.symm
    · exact fun e => h3 e.symm
    · exact fun e => h4 e.symm
    · exact fun e => h5 e.symm
    · exact fun e => h6 e.symm
  exact all b
def stepI : List UInt8 → Option T
  | [] => none
  | b :: t => match kindOf b with
    | none => none
    | some k => if (numOf 9 t).2 = true ∧ ¬ (numOf 9 t).1 > 200 then some ⟨(k : Int), (numOf 9 t).1⟩ else none
def mn (x : Int) : Int := if x < 1000 then x else 1000
def stepS : List UInt8 → Option T
  | [] => none
  | b :: t => match kindOf b with
    | none => none
    | some k => if (numOf 10 t).2 = true then some ⟨(k : Int), mn (numOf 10 t).1⟩ else none
theorem mn_bd {x : Int} (h : 0 ≤ x) : 0 ≤ mn x ∧ mn x ≤ 1000 := by
  unfold mn; split <;> omega
theorem stepS_wf {w : List UInt8} {n : T} (h : stepS w = some n) : wfT n ∧ 0 ≤ n.f0 ∧ n.f0 ≤ 5 ∧ 0 ≤ n.f1 := by
  cases w with
  | nil => cases h
  | cons b t =>
    simp only [stepS] at h
    cases hk : kindOf b with
    | none => rw [hk] at h; cases h
    | some k =>
      rw [hk] at h
      simp only at h
      split at h
      · injection h with h
        subst h
        have := kindOf_lt hk
        have hb := mn_bd (num_bound 10 t).1
        unfold wfT
        dsimp only
        omega
      · cases h
theorem step_IS (w : List UInt8) : stepI w = stepS w ∨ (stepI w = none ∧ ∃ n, stepS w = some n ∧ ok1 n = false) := by
  cases w with
  | nil => exact .inl rfl
  | cons b t =>
    simp only [stepI, stepS]
    cases hk : kindOf b with
    | none => exact .inl rfl
    | some k =>
      simp only
      have hkl := kindOf_lt hk
      by_cases h10 : (numOf 10 t).2 = true
      · rw [if_pos h10]
        have hb := num_bound 10 t
        have bad : (numOf 10 t).1 > 200 → ok1 (⟨(k : Int), mn (numOf 10 t).1⟩ : T) = false := by
          intro hg
          refine decide_eq_false (fun h => ?_)
          have h2 := h.2.2.2
          unfold en at h2
          have hw := wd_bd (k : Int)
          dsimp only at h2
          unfold mn at h2
          split at h2 <;> omega
        by_cases h9 : (numOf 9 t).2 = true
        · rw [num_9_10 _ h9] at bad ⊢
          by_cases hg : (numOf 9 t).1 > 200
          · rw [if_neg (fun h => h.2 hg)]
            exact .inr ⟨rfl, _, rfl, bad hg⟩
          · rw [if_pos ⟨h9, hg⟩]
            left
            congr 2
            unfold mn
            rw [if_pos (by omega)]
        · rw [if_neg (fun h => h9 h.1)]
          have h9' : (numOf 9 t).2 = false := by simpa using h9
          have := num_big t h9' h10
          exact .inr ⟨rfl, _, rfl, bad (by omega)⟩
      · rw [if_neg h10, if_neg]
        · exact .inl rfl
        · rintro ⟨h9, _⟩
          rw [num_9_10 _ h9] at h10
          exact h10 h9
def goN (step : List UInt8 → Option T) (g : G) : List T → List (List UInt8) → Option (List T)
  | acc, [] => if validH acc g = true then some acc else none
  | acc, w :: ws => match step w with | none => none | some n => goN step g (acc ++ [n]) ws
theorem not_valid {acc : List T} {g : G} (h : ∃ n ∈ acc, ok1 n = false) : ¬ validH acc g = true := by
  rintro hv
  obtain ⟨n, hn, hb⟩ := h
  have := valid_ok1 (validH_N hv) n hn
  rw [this] at hb; cases hb
theorem goN_bad (step : List UInt8 → Option T) (g : G) : ∀ (ws : List (List UInt8)) (acc : List T), (∃ n ∈ acc, ok1 n = false) → goN step g acc ws = none
  | [], acc, h => by
    unfold goN
    rw [if_neg (not_valid h)]
  | w :: ws, acc, h => by
    show (match step w with | none => none | some n => goN step g (acc ++ [n]) ws) = none
    cases step w with
    | none => rfl
    | some n =>
      obtain ⟨m, hm, hb⟩ := h
      exact goN_bad step g ws _ ⟨m, by simp [hm], hb⟩
theorem goN_long (step : List UInt8 → Option T) (g : G) : ∀ (ws : List (List UInt8)) (acc : List T), 60 < acc.length + ws.length → goN step g acc ws = none
  | [], acc, h => by
    unfold goN
    rw [if_neg]
    intro hv
    have := valid_len (validH_N hv)
    simp at h; omega
  | w :: ws, acc, h => by
    show (match step w with | none => none | some n => goN step g (acc ++ [n]) ws) = none
    cases step w with
    | none => rfl
    | some n => exact goN_long step g ws _ (by simp at h ⊢; omega)
theorem goN_IS (g : G) : ∀ (ws : List (List UInt8)) (acc : List T), goN stepI g acc ws = goN stepS g acc ws
  | [], acc => rfl
  | w :: ws, acc => by
    show (match stepI w with | none => none | some n => goN stepI g (acc ++ [n]) ws) = (match stepS w with | none => none | some n => goN stepS g (acc ++ [n]) ws)
    rcases step_IS w with e | ⟨e, n, e2, hb⟩
    · rw [e]
      cases stepS w with
      | none => rfl
      | some n => exact goN_IS g ws _
    · rw [e, e2]
      exact (goN_bad stepS g ws _ ⟨n, by simp, hb⟩).symm
theorem goN_len (step : List UInt8 → Option T) (g : G) : ∀ (ws : List (List UInt8)) (acc l : List T), goN step g acc ws = some l → l.length ≤ 60
  | [], acc, l, h => by
    unfold goN at h
    split at h
    · rename_i hv; injection h with h; subst h; exact valid_len (validH_N hv)
    · cases h
  | w :: ws, acc, l, h => by
    have h' : (match step w with | none => none | some n => goN step g (acc ++ [n]) ws) = some l := h
    cases hs : step w with
    | none => rw [hs] at h'; cases h'
    | some n => rw [hs] at h'; exact goN_len step g ws _ l h'
def ans (s : Bool) (g : G) : Option (List T) → Bool × List T × G × Int
  | some l => (s, l, g, 0)
  | none => (false, [], (Vector.replicate 16 0 : Vector Int 16), 5)
def fin (bt : Bool × List T × G × Bool) : Option (Bool × List T × G × Int) := if bt.2.2.2 = true then some (bt.1, bt.2.1, bt.2.2.1, 0) else some (false, [], (Vector.replicate 16 0 : Vector Int 16), 5)
theorem i16_id {x : Int} (h0 : -32768 ≤ x) (h1 : x ≤ 32767) : IntKind.i16.wrap x = x := by
  simp only [IntKind.wrap, IntKind.bits, IntKind.signed]
  simp
  omega
theorem bt00 (b : UInt8) (w : List UInt8) : bt (mkB (b :: w)) 0 = (b.toNat : Int) := bt_mk (b :: w) 0 (by simp)
theorem tailB (b : UInt8) (t : List UInt8) : (mkB (b :: t)).extract 1 (mkB (b :: t)).size = mkB t := by
  rw [mkB_extract, mkB_size]
  congr 1
  rw [List.drop_succ_cons, List.drop_zero]
  exact List.take_of_length_le (by simp)
/-! a notch's word, read by the reference -/
theorem notchS_ev (b : UInt8) (t : List UInt8) (ht : t ≠ []) : ∃ r, Ev (fun k => spec_l01ReadNotch.f k (mkB (b :: t))) r ∧ (match stepS (b :: t) with | some n => r = (n.f0, n.f1, true) | none => r.2.2 = false) := by
  have hsz : ((mkB (b :: t)).size : Int) > 1 := by
    rw [mkB_size]
    have := List.length_pos_iff.2 ht
    simp; omega
  have hb := num_bound 10 t
  have hm := mn_bd hb.1
  have found : ∀ k : Nat, (hk : k < 6) → L6[k]'hk = b → Ev (fun n => spec_l01ReadNotch.l0 n (mkB (b :: t)) (k : Int)) ((k : Int), mn (numOf 10 t).1, (numOf 10 t).2) := by
    intro k hk he
    refine Ev.step (fun n => by simp only [spec_l01ReadNotch.l0]; rfl) ?_
    refine ev_pos (by omega) ?_
    rw [decide_eq_true hsz]
    refine Ev.step (fun n => by simp only [spec_l01ReadNotch.j1]; rfl) ?_
    refine ev_pos (c := (true = true)) (g := fun _ => none) rfl ?_
    refine ev_bind0 (a := mkB L6) rfl (ev_pos (by omega) (ev_pos (by rw [mkB_size]; show (k : Int) < 6; omega) (ev_pos (by omega) ?_)))
    rw [bt_mk L6 k hk, bt00, he]
    refine ev_pos rfl (ev_pos (by omega) ?_)
    rw [tailB]
    refine Ev.bind (numS_ev t) ?_
    have e : spec_l00Min.f (numOf 10 t).1 1000 = some (mn (numOf 10 t).1) := by
      unfold spec_l00Min.f mn
      split <;> rfl
    refine ev_bind0 e ?_
    rw [i8_id (by omega) (by omega), i16_id (by omega) (by omega)]
    exact Ev.now _
  have next : ∀ (k : Nat) (r : Int × Int × Bool), (hk : k < 6) → L6[k]'hk ≠ b → Ev (fun n => spec_l01ReadNotch.l0 n (mkB (b :: t)) ((k + 1 : Nat) : Int)) r → Ev (fun n => spec_l01ReadNotch.l0 n (mkB (b :: t)) (k : Int)) r := by
    intro k r hk he hr
    refine Ev.step (fun n => by simp only [spec_l01ReadNotch.l0]; rfl) ?_
    refine ev_pos (by omega) ?_
    rw [decide_eq_true hsz]
    refine Ev.step (fun n => by simp only [spec_l01ReadNotch.j1]; rfl) ?_
    refine ev_pos (c := (true = true)) (g := fun _ => none) rfl ?_
    refine ev_bind0 (a := mkB L6) rfl (ev_pos (by omega) (ev_pos (by rw [mkB_size]; show (k : Int) < 6; omega) (ev_pos (by omega) ?_)))
    rw [bt_mk L6 k hk, bt00]
    refine ev_neg (fun e => he (UInt8.toNat_inj.1 (by omega))) ?_
    rw [wrap_id (by omega) (by omega), show (k : Int) + 1 = ((k + 1 : Nat) : Int) by omega]
    exact hr
  have skip : ∀ (m : Nat), m ≤ 6 → ∀ r, (∀ j, ∀ hj : j < 6, j < m → L6[j]'hj ≠ b) → Ev (fun n => spec_l01ReadNotch.l0 n (mkB (b :: t)) (m : Int)) r → Ev (fun n => spec_l01ReadNotch.l0 n (mkB (b :: t)) 0) r := by
    intro m
    induction m with
    | zero => intro _ r _ h; exact h
    | succ m ih =>
      intro hm r hne h
      exact ih (by omega) r (fun j hj hjm => hne j hj (by omega)) (next m r (by omega) (hne m (by omega) (by omega)) h)
  rcases kindOf_get b with ⟨k, hk, e, he, hne⟩ | ⟨e, hne⟩
  · refine ⟨_, skip k (by omega) _ (fun j hj hjk => hne j hjk) (found k hk he), ?_⟩
    simp only [stepS, e]
    by_cases h10 : (numOf 10 t).2 = true
    · rw [if_pos h10, h10]
    · rw [if_neg h10]
      simpa using h10
  · refine ⟨(0, 0, false), skip 6 (by omega) _ (fun j hj _ => hne j hj) ?_, ?_⟩
    · refine Ev.step (fun n => by simp only [spec_l01ReadNotch.l0]; rfl) ?_
      exact ev_neg (by decide) (Ev.step (fun n => rfl) (Ev.now _))
    · simp only [stepS, e]
theorem notchS_none (w : List UInt8) (h : w.length ≤ 1) : Ev (fun k => spec_l01ReadNotch.f k (mkB w)) (0, 0, false) ∧ stepS w = none := by
  refine ⟨?_, ?_⟩
  · unfold spec_l01ReadNotch.f
    refine Ev.step (fun n => by simp only [spec_l01ReadNotch.l0]; rfl) ?_
    refine ev_pos (by decide) ?_
    rw [decide_eq_false (by rw [mkB_size]; omega)]
    exact Ev.step (fun n => rfl) (Ev.now _)
  · cases w with
    | nil => rfl
    | cons b t =>
      have : t = [] := List.length_eq_zero_iff.1 (by rw [List.length_cons] at h; omega)
      subst this
      simp only [stepS]
      cases kindOf b with
      | none => rfl
      | some k => rfl
theorem loopHS (s : Bool) (g : G) (ws : List (List UInt8)) (hn : 2 ≤ ws.length) (hn2 : ws.length ≤ 4000000000) :
    Ev (fun k => (spec_l01ReadHalf.l1 k (ws.map mkB) 2 s [] g).bind fin) (ans s g (goN stepS g [] (ws.drop 2))) := by
  have key := ev_forI (σ := List T) (n := ws.length) (G := fun k x i => (spec_l01ReadHalf.l1 k (ws.map mkB) i s x g).bind fin) (F := fun x i => ans s g (goN stepS g x (ws.drop i))) (I := fun x i => x.length ≤ i ∧ ∀ n ∈ x, wfT n) ?_ ?_ 2 hn [] ⟨by simp, by simp⟩
  · exact key
  · rintro i hi ih x ⟨hx, hwx⟩
    refine Ev.step (fun k => by simp only [spec_l01ReadHalf.l1]; rfl) ?_
    refine evb_pos (by rw [List.length_map]; omega) (evb_pos (by omega) ?_)
    rw [rdOf_mk ws i hi, List.drop_eq_getElem_cons hi, wrap_up hi (by omega)]
    show Ev _ (ans s g (match stepS ws[i] with | none => none | some n => goN stepS g (x ++ [n]) (ws.drop (i + 1))))
    generalize ws[i] = w
    by_cases h1 : w.length ≤ 1
    · obtain ⟨e1, e2⟩ := notchS_none w h1
      rw [e2]
      exact evb_bind e1 (evb_neg (by decide) (evb_now rfl))
    · cases w with
      | nil => simp at h1
      | cons b t =>
        obtain ⟨r, e1, e2⟩ := notchS_ev b t (by rintro rfl; simp at h1)
        cases hs : stepS (b :: t) with
        | none =>
          rw [hs] at e2
          refine evb_bind e1 (evb_neg (by rw [e2]; decide) (evb_now rfl))
        | some n =>
          rw [hs] at e2
          have e2' : r = (n.f0, n.f1, true) := e2
          subst e2'
          refine evb_bind e1 (evb_pos rfl (evb_pos (by omega) ?_))
          refine ih (x ++ [n]) ⟨by simp; omega, ?_⟩
          intro m hm
          rcases List.mem_append.1 hm with hm | hm
          · exact hwx m hm
          · simp only [List.mem_singleton] at hm
            subst hm
            exact (stepS_wf hs).1
  · rintro x ⟨hx, hwx⟩
    refine Ev.step (fun k => by simp only [spec_l01ReadHalf.l1]; rfl) ?_
    refine evb_neg (by rw [List.length_map]; omega) ?_
    rw [List.drop_length]
    refine evb_bind (okS_ev s x g (by unfold maxLen; omega) hwx) (evb_now ?_)
    unfold fin goN
    by_cases hv : validH x g = true
    · rw [if_pos hv, if_pos hv]; rfl
    · rw [if_neg hv, if_neg hv]; rfl
theorem loopHI (s : Bool) (g : G) (ws : List (List UInt8)) (hn2 : ws.length ≤ 4000000000) :
    Ev (fun k => impl_ReadHalf.l1 k (ws.map mkB) (ws.length : Int) 0 s [] g) (ans s g (goN stepI g [] ws)) := by
  have key := ev_forI (σ := List T) (n := ws.length) (G := fun k x i => impl_ReadHalf.l1 k (ws.map mkB) (ws.length : Int) i s x g) (F := fun x i => ans s g (goN stepI g x (ws.drop i))) (I := fun x i => x.length ≤ i ∧ ∀ n ∈ x, wfT n) ?_ ?_ 0 (by omega) [] ⟨by simp, by simp⟩
  · exact key
  · rintro i hi ih x ⟨hx, hwx⟩
    refine Ev.step (fun k => by simp only [impl_ReadHalf.l1]; rfl) ?_
    refine ev_pos (by omega) (ev_pos (by omega) (ev_pos (by rw [List.length_map]; omega) ?_))
    rw [rdOf_mk ws i hi, List.drop_eq_getElem_cons hi, wrap_up hi (by omega)]
    show Ev _ (ans s g (match stepI ws[i] with | none => none | some n => goN stepI g (x ++ [n]) (ws.drop (i + 1))))
    generalize ws[i] = w
    cases w with
    | nil => exact ev_pos (by rw [mkB_toList]) (Ev.now _)
    | cons b t =>
      refine ev_neg (by rw [mkB_toList]; simp) (ev_pos (by rw [mkB_size, List.length_cons]; omega) ?_)
      rw [bt00]
      refine ev_bind0 (idx6 b) (ev_pos (by rw [mkB_size, List.length_cons]; omega) ?_)
      rw [tailB]
      refine Ev.bind (numI_ev t) ?_
      simp only [stepI]
      cases hk : kindOf b with
      | none => exact ev_pos (by decide) (Ev.now _)
      | some k =>
        have hkl := kindOf_lt hk
        have hb := num_bound 9 t
        simp only
        refine ev_neg (by omega) ?_
        by_cases h9 : (numOf 9 t).2 = true
        · refine ev_pos h9 ?_
          by_cases hg : (numOf 9 t).1 > 200
          · rw [if_neg (fun h => h.2 hg)]
            exact ev_pos hg (Ev.now _)
          · rw [if_pos ⟨h9, hg⟩, i8_id (by omega) (by omega), i16_id (by omega) (by omega)]
            refine ev_neg hg (ev_pos (by omega) ?_)
            refine ih (x ++ [⟨(k : Int), (numOf 9 t).1⟩]) ⟨by simp; omega, ?_⟩
            intro m hm
            rcases List.mem_append.1 hm with hm | hm
            · exact hwx m hm
            · simp only [List.mem_singleton] at hm
              subst hm
              unfold wfT
              dsimp only
              omega
        · rw [if_neg (fun h => h9 h.1)]
          exact ev_neg h9 (Ev.now _)
  · rintro x ⟨hx, hwx⟩
    refine Ev.step (fun k => by simp only [impl_ReadHalf.l1]; rfl) ?_
    refine ev_neg (by omega) ?_
    rw [List.drop_length]
    refine Ev.bind (ValidHalfI_ev s x g (by unfold maxLen; omega) hwx) ?_
    by_cases hv : validH x g = true
    · refine ev_eq (ev_pos hv (Ev.now _)) ?_
      unfold goN; rw [if_pos hv]; rfl
    · refine ev_eq (ev_neg hv (Ev.now _)) ?_
      unfold goN; rw [if_neg hv]; rfl
/-! the grain's word -/
def gbyte (w : List UInt8) (i : Nat) : Int := ((w.getD i 0).toNat : Int)
def okW (w : List UInt8) (i : Nat) : Bool := decide (97 ≤ gbyte w i ∧ gbyte w i ≤ 103)
def gW (w : List UInt8) : G := Vector.ofFn fun i : Fin 16 => gbyte w i - 100
theorem gv_gW (w : List UInt8) (q : Nat) (h : q < 16) : gv (gW w) q = gbyte w q - 100 := gv_ofFn (fun i => gbyte w i - 100) q h
theorem gset (w : List UInt8) (x : G) (i : Nat) (hi : i < 16) (hx : ∀ q, q < i → gv x q = gv (gW w) q) : ∀ q, q < i + 1 → gv (Arr.vst x (i : Int) (gbyte w i - 100)) q = gv (gW w) q := by
  intro q hq
  rw [gv_set x i q _ hi]
  by_cases h : q = i
  · rw [if_pos h, h, gv_gW w i hi]
  · rw [if_neg h]; exact hx q (by omega)
theorem i8b {x : Int} (h : 97 ≤ x ∧ x ≤ 103) : IntKind.i8.wrap (IntKind.i8.wrap x - 100) = x - 100 := by
  rw [i8_id (x := x) (by omega) (by omega), i8_id (by omega) (by omega)]
theorem btw (w : List UInt8) (i : Nat) (h : i < w.length) : bt (mkB w) (i : Int) = gbyte w i := by
  rw [bt_mk w i h]
  unfold gbyte
  rw [getD_lt _ _ _ h]
def headOk (ws : List (List UInt8)) : Bool := decide (2 ≤ ws.length ∧ (ws.getD 0 [] = [115, 116, 111, 99, 107] ∨ ws.getD 0 [] = [102, 111, 105, 108]) ∧ (ws.getD 1 []).length = 16)
def readHW (ws : List (List UInt8)) : Bool × List T × G × Int :=
  if headOk ws = true ∧ allFrom (okW (ws.getD 1 [])) 0 = true then ans (decide (ws.getD 0 [] = [115, 116, 111, 99, 107])) (gW (ws.getD 1 [])) (goN stepS (gW (ws.getD 1 [])) [] (ws.drop 2)) else (false, [], (Vector.replicate 16 0 : Vector Int 16), 5)
theorem loopGS (s : Bool) (ws : List (List UInt8)) (hn : 2 ≤ ws.length) (hn2 : ws.length ≤ 4000000000) (h16 : (ws.getD 1 []).length = 16) :
    Ev (fun k => (spec_l01ReadHalf.l0 k (ws.map mkB) 0 s (Vector.replicate 16 0 : Vector Int 16)).bind fin)
      (if allFrom (okW (ws.getD 1 [])) 0 = true then ans s (gW (ws.getD 1 [])) (goN stepS (gW (ws.getD 1 [])) [] (ws.drop 2)) else (false, [], (Vector.replicate 16 0 : Vector Int 16), 5)) := by
  have h1 : rdOf ByteArray.empty (ws.map mkB) 1 = mkB (ws.getD 1 []) := by
    have := rdOf_mk ws 1 (by omega)
    rw [getD_lt _ _ _ (by omega : 1 < ws.length)]
    exact this
  generalize ws.getD 1 [] = w at h16 h1 ⊢
  have key := ev_forI (σ := G) (n := 16) (G := fun k x i => (spec_l01ReadHalf.l0 k (ws.map mkB) i s x).bind fin) (F := fun x i => if allFrom (okW w) i = true then ans s (gW w) (goN stepS (gW w) [] (ws.drop 2)) else (false, [], (Vector.replicate 16 0 : Vector Int 16), 5)) (I := fun x i => ∀ q, q < i → gv x q = gv (gW w) q) ?_ ?_ 0 (by omega) (Vector.replicate 16 0 : Vector Int 16) (fun q hq => by omega)
  · exact key
  · intro i hi ih x hx
    refine Ev.step (fun k => by simp only [spec_l01ReadHalf.l0]; rfl) ?_
    refine evb_pos (by omega) (evb_pos (by rw [List.length_map]; omega) (evb_pos (by omega) (evb_pos (by rw [h1, mkB_size]; omega) ?_)))
    rw [h1, btw w i (by omega), wrap_up hi (by omega), allFrom_step _ _ hi]
    by_cases ha : gbyte w i < 97
    · have : okW w i = false := decide_eq_false (by omega)
      rw [this]
      exact evb_pos ha (evb_now rfl)
    refine evb_neg ha ?_
    by_cases hb : gbyte w i > 103
    · have : okW w i = false := decide_eq_false (by omega)
      rw [this]
      exact evb_pos hb (evb_now rfl)
    refine evb_neg hb ?_
    have : okW w i = true := decide_eq_true (by omega)
    rw [this, Bool.true_and, i8b (by omega)]
    exact ih _ (gset w x i hi hx)
  · intro x hx
    refine Ev.step (fun k => by simp only [spec_l01ReadHalf.l0]; rfl) ?_
    refine evb_neg (by omega) ?_
    rw [allFrom_end, if_pos rfl, gv_ext x (gW w) hx]
    exact loopHS s (gW w) ws hn hn2
theorem loopGI (s : Bool) (ws : List (List UInt8)) (hn : 2 ≤ ws.length) (hn2 : ws.length ≤ 4000000000) (h16 : (ws.getD 1 []).length = 16) :
    Ev (fun k => impl_ReadHalf.l0 k (ws.map mkB) 0 s (Vector.replicate 16 0 : Vector Int 16))
      (if allFrom (okW (ws.getD 1 [])) 0 = true then ans s (gW (ws.getD 1 [])) (goN stepI (gW (ws.getD 1 [])) [] (ws.drop 2)) else (false, [], (Vector.replicate 16 0 : Vector Int 16), 5)) := by
  have h1 : rdOf ByteArray.empty (ws.map mkB) 1 = mkB (ws.getD 1 []) := by
    have := rdOf_mk ws 1 (by omega)
    rw [getD_lt _ _ _ (by omega : 1 < ws.length)]
    exact this
  generalize ws.getD 1 [] = w at h16 h1 ⊢
  have key := ev_forI (σ := G) (n := 16) (G := fun k x i => impl_ReadHalf.l0 k (ws.map mkB) i s x) (F := fun x i => if allFrom (okW w) i = true then ans s (gW w) (goN stepI (gW w) [] (ws.drop 2)) else (false, [], (Vector.replicate 16 0 : Vector Int 16), 5)) (I := fun x i => ∀ q, q < i → gv x q = gv (gW w) q) ?_ ?_ 0 (by omega) (Vector.replicate 16 0 : Vector Int 16) (fun q hq => by omega)
  · exact key
  · intro i hi ih x hx
    refine Ev.step (fun k => by simp only [impl_ReadHalf.l0]; rfl) ?_
    refine ev_pos (by omega) (ev_pos (by rw [List.length_map]; omega) (ev_pos (by omega) (ev_pos (by rw [h1, mkB_size]; omega) ?_)))
    rw [h1, btw w i (by omega), wrap_up hi (by omega), allFrom_step _ _ hi]
    by_cases ha : gbyte w i < 97
    · have : okW w i = false := decide_eq_false (by omega)
      rw [this]
      exact ev_pos ha (Ev.now _)
    refine ev_neg ha ?_
    by_cases hb : gbyte w i > 103
    · have : okW w i = false := decide_eq_false (by omega)
      rw [this]
      exact ev_pos hb (Ev.now _)
    refine ev_neg hb ?_
    have : okW w i = true := decide_eq_true (by omega)
    rw [this, Bool.true_and, i8b (by omega)]
    exact ih _ (gset w x i hi hx)
  · intro x hx
    refine Ev.step (fun k => by simp only [impl_ReadHalf.l0]; rfl) ?_
    refine ev_neg (by omega) (ev_pos (by rw [List.length_map]; omega) ?_)
    rw [allFrom_end, if_pos rfl, gv_ext x (gW w) hx, ← List.map_drop]
    refine ev_bind0 rfl ?_
    rw [List.length_map]
    exact loopHI s (gW w) (ws.drop 2) (by rw [List.length_drop]; omega)
theorem headS (ws : List (List UInt8)) (i : Nat) (h : i < ws.length) : rdOf ByteArray.empty (ws.map mkB) (i : Int) = mkB (ws.getD i []) := by
  rw [rdOf_mk ws i h, getD_lt _ _ _ h]
theorem ReadS_ev (l : List UInt8) (hl : l.length ≤ 1000000000) : Ev (fun k => spec_ReadHalf.f k (mkB l)) (readHW (words 32 l)) := by
  unfold spec_ReadHalf.f
  have hn := words_len 32 l
  show Ev (fun k => (spec_l01ReadHalf.f k (mkB l)).bind fin) _
  unfold spec_l01ReadHalf.f
  refine evb_bind (split_ev l 32 (by omega)) ?_
  generalize words 32 l = ws at hn ⊢
  have stop : Ev (fun k => (spec_l01ReadHalf.j0 k (ws.map mkB) true).bind fin) (false, ([] : List T), (Vector.replicate 16 0 : Vector Int 16), (5 : Int)) := by
    refine Ev.step (f := fun _ => (some (false, ([] : List T), (Vector.replicate 16 0 : Vector Int 16), false)).bind fin) (fun k => by simp only [spec_l01ReadHalf.j0]; rfl) (evb_now rfl)
  have no : headOk ws = false → readHW ws = (false, ([] : List T), (Vector.replicate 16 0 : Vector Int 16), (5 : Int)) := by
    intro h; unfold readHW; rw [if_neg]; rintro ⟨h', _⟩; rw [h] at h'; cases h'
  by_cases h2 : (ws.length : Int) < 2
  · rw [no (decide_eq_false (by omega))]
    exact evb_pos (by rw [List.length_map]; exact h2) stop
  refine evb_neg (by rw [List.length_map]; exact h2) (evb_pos (by rw [List.length_map]; omega) ?_)
  have r0 : rdOf ByteArray.empty (ws.map mkB) 0 = mkB (ws.getD 0 []) := headS ws 0 (by omega)
  have r1 : rdOf ByteArray.empty (ws.map mkB) 1 = mkB (ws.getD 1 []) := headS ws 1 (by omega)
  rw [r0, r1, mkB_toList, mkB_size]
  have go : (ws.getD 0 [] = [115, 116, 111, 99, 107] ∨ ws.getD 0 [] = [102, 111, 105, 108]) → Ev (fun k => (spec_l01ReadHalf.j0 k (ws.map mkB) ((((ws.getD 1 []).length : Nat) : Int) != 16)).bind fin) (readHW ws) := by
    intro hh
    by_cases h16 : (ws.getD 1 []).length = 16
    · rw [h16, show ((((16 : Nat) : Int)) != 16) = false from rfl]
      refine Ev.step (fun k => by simp only [spec_l01ReadHalf.j0]; rfl) ?_
      refine evb_neg (by decide) (evb_pos (by rw [List.length_map]; omega) ?_)
      rw [r0, mkB_toList]
      have := loopGS (decide (ws.getD 0 [] = [115, 116, 111, 99, 107])) ws (by omega) (by omega) h16
      have eb : (ws.getD 0 [] == ([115, 116, 111, 99, 107] : List UInt8)) = decide (ws.getD 0 [] = [115, 116, 111, 99, 107]) := by
        by_cases h : ws.getD 0 [] = [115, 116, 111, 99, 107]
        · rw [decide_eq_true h]; simpa using h
        · rw [decide_eq_false h]; simpa using h
      rw [eb]
      refine ev_eq this ?_
      unfold readHW
      have hO : headOk ws = true := decide_eq_true ⟨by omega, hh, h16⟩
      by_cases ha : allFrom (okW (ws.getD 1 [])) 0 = true
      · rw [if_pos ha, if_pos ⟨hO, ha⟩]
      · rw [if_neg ha, if_neg (fun h => ha h.2)]
    · rw [no (decide_eq_false (fun h => h16 h.2.2)), show ((((ws.getD 1 []).length : Nat) : Int) != 16) = true by rw [bne_iff_ne]; omega]
      exact stop
  by_cases ha : ws.getD 0 [] = [115, 116, 111, 99, 107]
  · exact evb_pos ha (evb_pos (by rw [List.length_map]; omega) (go (.inl ha)))
  refine evb_neg ha ?_
  by_cases hb : ws.getD 0 [] = [102, 111, 105, 108]
  · exact evb_pos hb (evb_pos (by rw [List.length_map]; omega) (go (.inr hb)))
  · rw [no (decide_eq_false (fun h => by rcases h.2.1 with h | h; exact ha h; exact hb h))]
    exact evb_neg hb stop
theorem ReadI_ev (l : List UInt8) (hl : l.length ≤ 1000000000) : Ev (fun k => impl_ReadHalf.f k (mkB l)) (readHW (words 32 l)) := by
  unfold impl_ReadHalf.f
  have hn := words_len 32 l
  have hs : strings_Split.f (mkB l) (⟨#[32]⟩ : ByteArray) = some ((words 32 l).map mkB) := by
    unfold strings_Split.f
    rw [if_pos ⟨by rw [mkB_size]; omega, by decide⟩]
    congr 1
    exact splitB_words 32 l
  refine ev_bind0 hs ?_
  generalize words 32 l = ws at hn ⊢
  have stop : Ev (fun k => impl_ReadHalf.j0 k (ws.map mkB) true) (false, ([] : List T), (Vector.replicate 16 0 : Vector Int 16), (5 : Int)) := by
    exact Ev.step (fun k => rfl) (Ev.now _)
  have no : headOk ws = false → readHW ws = (false, ([] : List T), (Vector.replicate 16 0 : Vector Int 16), (5 : Int)) := by
    intro h; unfold readHW; rw [if_neg]; rintro ⟨h', _⟩; rw [h] at h'; cases h'
  by_cases h2 : (ws.length : Int) < 2
  · rw [no (decide_eq_false (by omega))]
    exact ev_pos (by rw [List.length_map]; exact h2) stop
  refine ev_neg (by rw [List.length_map]; exact h2) ?_
  by_cases h62 : (ws.length : Int) > 62
  · refine ev_eq (ev_pos (by rw [List.length_map]; exact h62) stop) ?_
    unfold readHW
    by_cases hc : headOk ws = true ∧ allFrom (okW (ws.getD 1 [])) 0 = true
    · rw [if_pos hc, goN_long _ _ _ _ (by rw [List.length_drop]; simp; omega)]; rfl
    · rw [if_neg hc]
  refine ev_neg (by rw [List.length_map]; exact h62) (ev_pos (by rw [List.length_map]; omega) ?_)
  have r0 : rdOf ByteArray.empty (ws.map mkB) 0 = mkB (ws.getD 0 []) := headS ws 0 (by omega)
  have r1 : rdOf ByteArray.empty (ws.map mkB) 1 = mkB (ws.getD 1 []) := headS ws 1 (by omega)
  rw [r0, r1, mkB_toList, mkB_size]
  have go : (ws.getD 0 [] = [115, 116, 111, 99, 107] ∨ ws.getD 0 [] = [102, 111, 105, 108]) → Ev (fun k => impl_ReadHalf.j0 k (ws.map mkB) ((((ws.getD 1 []).length : Nat) : Int) != 16)) (readHW ws) := by
    intro hh
    by_cases h16 : (ws.getD 1 []).length = 16
    · rw [h16, show ((((16 : Nat) : Int)) != 16) = false from rfl]
      refine Ev.step (fun k => by simp only [impl_ReadHalf.j0]; rfl) ?_
      refine ev_neg (by decide) (ev_pos (by rw [List.length_map]; omega) ?_)
      rw [r0, mkB_toList]
      have := loopGI (decide (ws.getD 0 [] = [115, 116, 111, 99, 107])) ws (by omega) (by omega) h16
      have eb : (ws.getD 0 [] == ([115, 116, 111, 99, 107] : List UInt8)) = decide (ws.getD 0 [] = [115, 116, 111, 99, 107]) := by
        by_cases h : ws.getD 0 [] = [115, 116, 111, 99, 107]
        · rw [decide_eq_true h]; simpa using h
        · rw [decide_eq_false h]; simpa using h
      rw [eb]
      refine ev_eq this ?_
      unfold readHW
      have hO : headOk ws = true := decide_eq_true ⟨by omega, hh, h16⟩
      by_cases ha : allFrom (okW (ws.getD 1 [])) 0 = true
      · rw [if_pos ha, if_pos ⟨hO, ha⟩, goN_IS]
      · rw [if_neg ha, if_neg (fun h => ha h.2)]
    · rw [no (decide_eq_false (fun h => h16 h.2.2)), show ((((ws.getD 1 []).length : Nat) : Int) != 16) = true by rw [bne_iff_ne]; omega]
      exact stop
  by_cases ha : ws.getD 0 [] = [115, 116, 111, 99, 107]
  · exact ev_pos ha (ev_pos (by rw [List.length_map]; omega) (go (.inl ha)))
  refine ev_neg ha ?_
  by_cases hb : ws.getD 0 [] = [102, 111, 105, 108]
  · exact ev_pos hb (ev_pos (by rw [List.length_map]; omega) (go (.inr hb)))
  · rw [no (decide_eq_false (fun h => by rcases h.2.1 with h | h; exact ha h; exact hb h))]
    exact ev_neg hb stop
theorem readHW_len (ws : List (List UInt8)) : (readHW ws).2.1.length ≤ 60 := by
  unfold readHW
  split
  · cases h : goN stepS (gW (ws.getD 1 [])) [] (ws.drop 2) with
    | none => simp [ans]
    | some l => exact goN_len _ _ _ _ _ h
  · simp
end Go.Proofs.YtfjmljgbdejghaaDoor.PuRHalfReadHalf
