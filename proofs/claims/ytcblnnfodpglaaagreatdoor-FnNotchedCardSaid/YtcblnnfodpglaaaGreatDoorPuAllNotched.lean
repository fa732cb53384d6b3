import Derived.Test.YtcblnnfodpglaaaGreatDoorMNotchedx0
import Derived.Test.YtcblnnfodpglaaaGreatDoorMNotchedx12
import Derived.Test.YtcblnnfodpglaaaGreatDoorMNotchedx6
import Derived.Test.YtcblnnfodpglaaaGreatDoorVNotchedEv
import Derived.Test.YtcblnnfodpglaaaGreatDoorVNotchedArr
import Derived.Test.YtcblnnfodpglaaaGreatDoorMNotchedx17
import Derived.Test.YtcblnnfodpglaaaGreatDoorMNotchedx2
import Derived.Test.YtcblnnfodpglaaaGreatDoorMNotchedx3
import Derived.Test.YtcblnnfodpglaaaGreatDoorMNotchedx7
import Derived.Test.YtcblnnfodpglaaaGreatDoorMNotchedx13
import Derived.Test.YtcblnnfodpglaaaGreatDoorMNotchedx14
import Derived.Test.YtcblnnfodpglaaaGreatDoorMNotchedx19
import Derived.Test.YtcblnnfodpglaaaGreatDoorMNotchedx18
import Derived.Test.YtcblnnfodpglaaaGreatDoorMNotchedx10
import Derived.Lib.ItoaNum
import Derived.Lib.Join
import Derived.Lib.Split
import Derived.Lib.IndexBytes
import Derived.Lib.IndexLaws
import Derived.Lib.CountLaws
import Derived.Test.YtcblnnfodpglaaaGreatDoorMNotchedx8
import Derived.Test.YtcblnnfodpglaaaGreatDoorMNotchedx9
import Derived.Laws.BitsAllLaws
import Derived.Test.YtcblnnfodpglaaaGreatDoorMNotchedx11
import Derived.Test.YtcblnnfodpglaaaGreatDoorMNotchedx15
import Derived.Test.YtcblnnfodpglaaaGreatDoorMNotchedx16
import Derived.Test.YtcblnnfodpglaaaGreatDoorMNotchedx4
import Derived.Test.YtcblnnfodpglaaaGreatDoorMNotchedx5
-- a text of this session, cut down for this claim
namespace Go.Proofs.YtcblnnfodpglaaaGreatDoor.PuGrainNotched
open Go.RowKit Go.Proofs.YtcblnnfodpglaaaGreatDoor.MNotched Go.Proofs.YtcblnnfodpglaaaGreatDoorW.PrintWords Go.Proofs.YtcblnnfodpglaaaGreatDoorW.PrintLast Go.Proofs.YtcblnnfodpglaaaGreatDoor.Evs
set_option linter.unusedVariables false
set_option linter.unusedSimpArgs false
abbrev G := Vector Int 16
def gv (x : G) (i : Nat) : Int := x.toList.getD i 0
theorem vrd_n (x : G) (i : Nat) : Arr.vrd x (i : Int) = gv x i := by
  unfold Arr.vrd gv
  rw [Int.toNat_natCast]
theorem gv_set (x : G) (i q : Nat) (y : Int) (hi : i < 16) : gv (Arr.vst x (i : Int) y) q = if q = i then y else gv x q := by
  unfold Arr.vst gv
  rw [Vector.toList_setIfInBounds, Int.toNat_natCast, List.getD_eq_getElem?_getD, List.getD_eq_getElem?_getD, List.getElem?_set]
  by_cases h : i = q
  · subst h
    simp [hi]
  · rw [if_neg h, if_neg (fun e => h e.symm)]
theorem gv_ext (x y : G) (h : ∀ i, i < 16 → gv x i = gv y i) : x = y := Arr.ext_getD x y h
theorem wrap_up16 {i : Nat} (h : i < 16) : wrap64 ((i : Int) + 1) = (i : Int) + 1 := wrap_up h (by omega)
def allFrom (p : Nat → Bool) (i : Nat) : Bool := (List.range' i (16 - i)).all p
theorem allFrom_step (p : Nat → Bool) (i : Nat) (h : i < 16) : allFrom p i = (p i && allFrom p (i + 1)) := by
  unfold allFrom
  rw [show 16 - i = (16 - (i + 1)) + 1 by omega, List.range'_succ, List.all_cons]
theorem allFrom_end (p : Nat → Bool) : allFrom p 16 = true := rfl
theorem allFrom_iff (p : Nat → Bool) (i : Nat) : allFrom p i = true ↔ ∀ q, i ≤ q → q < 16 → p q = true := by
  unfold allFrom
  rw [List.all_eq_true]
  constructor
  · intro h q h1 h2
    exact h q (by rw [List.mem_range'_1]; omega)
  · intro h q hq
    rw [List.mem_range'_1] at hq
    exact h q hq.1 (by omega)
def ok3 (x : G) (i : Nat) : Bool := decide (-3 ≤ gv x i) && decide (gv x i ≤ 3)
def okG (x : G) : Bool := allFrom (ok3 x) 0
theorem okG_iff (x : G) : okG x = true ↔ ∀ q, q < 16 → -3 ≤ gv x q ∧ gv x q ≤ 3 := by
  unfold okG
  rw [allFrom_iff]
  constructor
  · intro h q hq
    have := h q (by omega) hq
    simpa [ok3] using this
  · intro h q _ hq
    simpa [ok3] using h q hq
theorem l01Grain_ev (x : G) : Ev (fun k => spec_l01Grain.f k x) (okG x) := by
  unfold spec_l01Grain.f okG
  refine ev_for (n := 16) (G := fun k (_ : Unit) i => spec_l01Grain.l0 k i x) (F := fun _ i => allFrom (ok3 x) i) (fun i hi ih s => ?_) (fun s => ?_) 0 (by omega) ()
  · rw [allFrom_step _ _ hi]
    by_cases h1 : gv x i < -3
    · refine ev_eq (Ev.step (f := fun _ => some false) (fun k => ?_) (Ev.now _)) ?_
      · simp only [spec_l01Grain.l0]
        rw [if_pos (by omega), if_pos (by omega), vrd_n, if_pos h1]
      · simp [ok3, h1, show ¬ (-3 ≤ gv x i) by omega]
    · by_cases h2 : gv x i > 3
      · refine ev_eq (Ev.step (f := fun _ => some false) (fun k => ?_) (Ev.now _)) ?_
        · simp only [spec_l01Grain.l0]
          rw [if_pos (by omega), if_pos (by omega), vrd_n, if_neg h1, if_pos h2]
        · simp [ok3, show ¬ (gv x i ≤ 3) by omega]
      · refine ev_eq (Ev.step (fun k => ?_) (ih ())) ?_
        · simp only [spec_l01Grain.l0]
          rw [if_pos (by omega), if_pos (by omega), vrd_n, if_neg h1, if_neg h2, wrap_up16 hi]
        · simp [ok3, show -3 ≤ gv x i by omega, show gv x i ≤ 3 by omega]
  · refine ev_eq (Ev.step (f := fun _ => some true) (fun k => ?_) (Ev.now _)) rfl
    simp only [spec_l01Grain.l0]
    rw [if_neg (by omega)]
theorem ValidGrainI_ev (x : G) : Ev (fun k => impl_ValidGrain.f k x) (okG x) := by
  unfold impl_ValidGrain.f okG
  refine ev_for (n := 16) (G := fun k (_ : Unit) i => impl_ValidGrain.l0 k i x) (F := fun _ i => allFrom (ok3 x) i) (fun i hi ih s => ?_) (fun s => ?_) 0 (by omega) ()
  · rw [allFrom_step _ _ hi]
    by_cases h1 : gv x i < -3
    · refine ev_eq (Ev.step (f := fun _ => some false) (fun k => ?_) (Ev.now _)) ?_
      · simp only [impl_ValidGrain.l0]
        rw [if_pos (by omega), if_pos (by omega), vrd_n, if_pos h1]
      · simp [ok3, h1, show ¬ (-3 ≤ gv x i) by omega]
    · by_cases h2 : gv x i > 3
      · refine ev_eq (Ev.step (f := fun _ => some false) (fun k => ?_) (Ev.now _)) ?_
        · simp only [impl_ValidGrain.l0]
          rw [if_pos (by omega), if_pos (by omega), vrd_n, if_neg h1, if_pos h2]
        · simp [ok3, show ¬ (gv x i ≤ 3) by omega]
      · refine ev_eq (Ev.step (fun k => ?_) (ih ())) ?_
        · simp only [impl_ValidGrain.l0]
          rw [if_pos (by omega), if_pos (by omega), vrd_n, if_neg h1, if_neg h2, wrap_up16 hi]
        · simp [ok3, show -3 ≤ gv x i by omega, show gv x i ≤ 3 by omega]
  · refine ev_eq (Ev.step (f := fun _ => some true) (fun k => ?_) (Ev.now _)) rfl
    simp only [impl_ValidGrain.l0]
    rw [if_neg (by omega)]
theorem i8_id {x : Int} (h0 : -128 ≤ x) (h1 : x ≤ 127) : IntKind.i8.wrap x = x := by
  simp only [IntKind.wrap, IntKind.bits, IntKind.signed]
  simp
  omega
theorem gv_ofFn (f : Nat → Int) (q : Nat) (h : q < 16) : gv (Vector.ofFn fun i : Fin 16 => f i) q = f q := by
  unfold gv
  rw [List.getD_eq_getElem?_getD, Vector.toList_ofFn, List.getElem?_ofFn]
  simp [h]
def next (s : Int) : Int := (((1664525 * s) % 4294967296) + 1013904223) % 4294967296
def gf : Nat → Nat → Int → G → G × Int
  | 0, _, s, g => (g, s)
  | m + 1, i, s, g => gf m (i + 1) (next s) (Arr.vst g (i : Int) (((next s / 65536) % 7) - 3))
def zeroG : G := (Vector.replicate 16 0 : Vector Int 16)
end Go.Proofs.YtcblnnfodpglaaaGreatDoor.PuGrainNotched
-- a text of this session, cut down for this claim
namespace Go.Proofs.YtcblnnfodpglaaaGreatDoor.PuFitNotched
open Go.RowKit Go.Proofs.YtcblnnfodpglaaaGreatDoor.MNotched Go.Proofs.YtcblnnfodpglaaaGreatDoorW.PrintWords Go.Proofs.YtcblnnfodpglaaaGreatDoorW.PrintLast Go.Proofs.YtcblnnfodpglaaaGreatDoor.Evs Go.Proofs.YtcblnnfodpglaaaGreatDoor.PuGrainNotched
set_option linter.unusedVariables false
set_option linter.unusedSimpArgs false
def sg (x y : G) (i : Nat) : Int := IntKind.i8.wrap (gv x i + gv y i)
def fit1 (x y : G) (i : Nat) : Bool := decide (-1 ≤ sg x y i) && decide (sg x y i ≤ 1)
def wornFrom (x y : G) (i : Nat) : List Int := ((List.range' i (16 - i)).filter fun q => decide (sg x y q ≠ 0)).map (fun (q : Nat) => (q : Int))
def fitG (x y : G) (w : Int) : Bool := allFrom (fit1 x y) 0 && decide (((wornFrom x y 0).length : Int) ≤ w)
theorem wornFrom_step (x y : G) (i : Nat) (h : i < 16) : wornFrom x y i = if sg x y i = 0 then wornFrom x y (i + 1) else (i : Int) :: wornFrom x y (i + 1) := by
  unfold wornFrom
  rw [show 16 - i = (16 - (i + 1)) + 1 by omega, List.range'_succ, List.filter_cons]
  by_cases e : sg x y i = 0
  · simp [e]
  · simp [e]
theorem wornFrom_end (x y : G) : wornFrom x y 16 = [] := rfl
theorem wornI_ev (x y : G) : Ev (fun k => impl_worn.f k x y) (wornFrom x y 0) := by
  unfold impl_worn.f
  refine ev_eq (ev_forI (n := 16) (G := fun k s i => impl_worn.l0 k s i x y) (F := fun s i => s ++ wornFrom x y i) (I := fun s i => s.length ≤ i) (fun i hi ih s hI => ?_) (fun s hI => ?_) 0 (by omega) [] (by simp)) (by simp)
  · by_cases e : sg x y i = 0
    · refine ev_eq (Ev.step (f := fun k => impl_worn.l0 k s ((i : Int) + 1) x y) (fun k => ?_) (ih s (by omega))) ?_
      · simp only [impl_worn.l0]
        rw [if_pos (by omega), if_pos (by omega), vrd_n, vrd_n, wrap_up16 hi]
        exact if_pos e
      · show s ++ wornFrom x y (i + 1) = s ++ wornFrom x y i
        rw [wornFrom_step x y i hi, if_pos e]
    · refine ev_eq (Ev.step (f := fun k => impl_worn.l0 k (s ++ [(i : Int)]) ((i : Int) + 1) x y) (fun k => ?_) (ih (s ++ [(i : Int)]) (by simp; omega))) ?_
      · simp only [impl_worn.l0]
        rw [if_pos (by omega), if_pos (by omega), vrd_n, vrd_n, wrap_up16 hi, if_neg (show ¬ IntKind.i8.wrap (gv x i + gv y i) = 0 from e), if_pos (by omega)]
      · show (s ++ [(i : Int)]) ++ wornFrom x y (i + 1) = s ++ wornFrom x y i
        rw [wornFrom_step x y i hi, if_neg e, List.append_assoc]; rfl
  · refine ev_eq (Ev.step (f := fun _ => some s) (fun k => ?_) (Ev.now _)) (by simp [wornFrom_end])
    simp only [impl_worn.l0]
    rw [if_neg (by omega)]
theorem fitI_ev (x y : G) (w : Int) : Ev (fun k => impl_fitsGrain.f k x y w) (fitG x y w) := by
  unfold impl_fitsGrain.f fitG
  refine ev_for (n := 16) (G := fun k (_ : Unit) i => impl_fitsGrain.l0 k w i x y) (F := fun _ i => allFrom (fit1 x y) i && decide (((wornFrom x y 0).length : Int) ≤ w)) (fun i hi ih s => ?_) (fun s => ?_) 0 (by omega) ()
  · rw [allFrom_step _ _ hi]
    by_cases h1 : sg x y i < -1
    · refine ev_eq (Ev.step (f := fun _ => some false) (fun k => ?_) (Ev.now _)) ?_
      · simp only [impl_fitsGrain.l0]
        rw [if_pos (by omega), if_pos (by omega), vrd_n, vrd_n]
        exact if_pos h1
      · simp [fit1, show ¬ (-1 ≤ sg x y i) by omega]
    · by_cases h2 : sg x y i > 1
      · refine ev_eq (Ev.step (f := fun _ => some false) (fun k => ?_) (Ev.now _)) ?_
        · simp only [impl_fitsGrain.l0]
          rw [if_pos (by omega), if_pos (by omega), vrd_n, vrd_n, if_neg (show ¬ IntKind.i8.wrap (gv x i + gv y i) < -1 from h1)]
          exact if_pos h2
        · simp [fit1, show ¬ (sg x y i ≤ 1) by omega]
      · refine ev_eq (Ev.step (fun k => ?_) (ih ())) ?_
        · simp only [impl_fitsGrain.l0]
          rw [if_pos (by omega), if_pos (by omega), vrd_n, vrd_n, if_neg (show ¬ IntKind.i8.wrap (gv x i + gv y i) < -1 from h1), if_neg (show ¬ IntKind.i8.wrap (gv x i + gv y i) > 1 from h2), wrap_up16 hi]
        · simp [fit1, show -1 ≤ sg x y i by omega, show sg x y i ≤ 1 by omega]
  · refine Ev.step (f := fun k => (impl_worn.f k x y).bind fun t => some (decide ((t.length : Int) ≤ w))) (fun k => ?_) (Ev.bind (wornI_ev x y) ?_)
    · simp only [impl_fitsGrain.l0]
      rw [if_neg (by omega)]
    · exact ev_eq (Ev.now _) (by simp [allFrom_end])
theorem isWear_eq (w : Int) : impl_isWear.f w = some (decide (0 ≤ w ∧ w ≤ 16)) := by
  unfold impl_isWear.f
  by_cases h0 : w ≥ 0
  · rw [if_pos h0]; simp [show 0 ≤ w from h0]
  · rw [if_neg h0]; simp [show ¬ 0 ≤ w from h0]
end Go.Proofs.YtcblnnfodpglaaaGreatDoor.PuFitNotched
-- a text of this session, cut down for this claim
namespace Go.Proofs.YtcblnnfodpglaaaGreatDoor.PuNotchNotched
open Go.RowKit Go.Proofs.YtcblnnfodpglaaaGreatDoor.MNotched Go.Proofs.YtcblnnfodpglaaaGreatDoorW.PrintWords Go.Proofs.YtcblnnfodpglaaaGreatDoorW.PrintLast Go.Proofs.YtcblnnfodpglaaaGreatDoor.Evs Go.Proofs.YtcblnnfodpglaaaGreatDoor.PuGrainNotched
set_option linter.unusedVariables false
set_option linter.unusedSimpArgs false
abbrev T := S60
theorem T.ext {a b : T} (h0 : a.f0 = b.f0) (h1 : a.f1 = b.f1) : a = b := by
  cases a; cases b; simp_all
def wfT (n : T) : Prop := (-128 ≤ n.f0 ∧ n.f0 ≤ 127) ∧ (-32768 ≤ n.f1 ∧ n.f1 ≤ 32767)
theorem rdT (l : List T) (i : Nat) (h : i < l.length) : rd_T60 l (i : Int) = l[i] := getD_lt l _ i h
def wd (k : Int) : Int := ([1, 2, 4, 6, 9, 12] : List Int).getD k.toNat 0
theorem wd_bd (k : Int) : 0 ≤ wd k ∧ wd k ≤ 12 := by
  unfold wd
  generalize k.toNat = m
  match m with
  | 0 => decide
  | 1 => decide
  | 2 => decide
  | 3 => decide
  | 4 => decide
  | 5 => decide
  | m + 6 => simp
theorem wd_pos (k : Int) (h0 : 0 ≤ k) (h1 : k ≤ 5) : 1 ≤ wd k := by
  unfold wd
  have : k.toNat ≤ 5 := by omega
  generalize k.toNat = m at this
  match m, this with
  | 0, _ => decide
  | 1, _ => decide
  | 2, _ => decide
  | 3, _ => decide
  | 4, _ => decide
  | 5, _ => decide
  | m + 6, h => omega
def en (n : T) : Int := n.f1 + wd n.f0
def kd (k : Int) : Bool := decide (0 ≤ k ∧ k ≤ 5)
def ok1 (n : T) : Bool := decide (0 ≤ n.f0 ∧ n.f0 ≤ 5 ∧ 0 ≤ n.f1 ∧ en n ≤ 200)
def ok2 (p n : T) : Bool := decide (n.f0 ≤ p.f0 ∧ en p < n.f1)
def okP (p : Option T) (n : T) : Bool := match p with | none => true | some p => ok2 p n
def chain : Option T → List T → Bool
  | _, [] => true
  | p, n :: l => ok1 n && okP p n && chain (some n) l
def prev (l : List T) (i : Nat) : Option T := if i = 0 then none else l[i - 1]?
theorem prev_succ (l : List T) (i : Nat) (h : i < l.length) : prev l (i + 1) = some l[i] := by
  unfold prev
  rw [if_neg (by omega), Nat.add_sub_cancel, List.getElem?_eq_getElem h]
theorem prev_pos (l : List T) (i : Nat) (h0 : 0 < i) (h : i < l.length) : prev l i = some (l[i - 1]'(by omega)) := by
  unfold prev
  rw [if_neg (by omega), List.getElem?_eq_getElem (by omega)]
theorem chain_step (l : List T) (i : Nat) (h : i < l.length) : chain (prev l i) (l.drop i) = (ok1 l[i] && okP (prev l i) l[i] && chain (prev l (i + 1)) (l.drop (i + 1))) := by
  rw [List.drop_eq_getElem_cons h, prev_succ l i h]; rfl
def validN (l : List T) : Bool := decide (l.length ≤ 60) && chain none l
def validH (l : List T) (g : G) : Bool := validN l && okG g
theorem wrap_i8 {n : T} (h : wfT n) : wrap64 n.f0 = n.f0 := wrap_id (by have := h.1.1; omega) (by have := h.1.2; omega)
theorem wrap_i16 {n : T} (h : wfT n) : wrap64 n.f1 = n.f1 := wrap_id (by have := h.2.1; omega) (by have := h.2.2; omega)
theorem l00In_f (a b c : Int) : spec_l00In.f a b c = some (decide (b ≤ a ∧ a ≤ c)) := by
  unfold spec_l00In.f
  by_cases h : a ≥ b
  · rw [if_pos h]; congr 1; simp [show b ≤ a from h]
  · rw [if_neg h]; congr 1; simp [show ¬ b ≤ a from h]
theorem kindS (k : Int) : spec_l01Kind.f k = some (kd k) := by
  unfold spec_l01Kind.f
  rw [l00In_f]; rfl
theorem kindI (k : Int) : impl_isKind.f k = some (kd k) := by
  unfold impl_isKind.f kd
  by_cases h : k ≥ 0
  · rw [if_pos h]; congr 1; simp [show 0 ≤ k from h]
  · rw [if_neg h]; congr 1; simp [show ¬ 0 ≤ k from h]
theorem widthI {k : Int} (h : kd k = true) : impl_width.f k = some (wd k) := by
  have h := of_decide_eq_true h
  unfold impl_width.f
  simp only [Option.bind_some]
  rw [if_pos h.1, if_pos (by simp; omega)]; rfl
theorem endI {n : T} (hw : wfT n) (h : kd n.f0 = true) : impl_Notch_end.f n.f0 n.f1 = some (en n) := by
  unfold impl_Notch_end.f
  have := wd_bd n.f0
  have := hw.2
  rw [wrap_i8 hw, wrap_i16 hw, widthI h]
  simp only [Option.bind_some]
  rw [wrap_id (by omega) (by omega)]; rfl
theorem endS {n : T} (hw : wfT n) (h : kd n.f0 = true) : spec_l01Ends.f n.f0 n.f1 = some (en n) := by
  unfold spec_l01Ends.f spec_l01Widths.f
  have := wd_bd n.f0
  have := hw.2
  have hk := of_decide_eq_true h
  simp only [Option.bind_some]
  rw [if_pos hk.1, if_pos (by simp; omega), wrap_i16 hw, show rd [1, 2, 4, 6, 9, 12] n.f0 = wd n.f0 from rfl, wrap_id (by omega) (by omega)]; rfl
theorem ok1_kd {n : T} (h : ok1 n = true) : kd n.f0 = true := by
  have := of_decide_eq_true h
  exact decide_eq_true ⟨this.1, this.2.1⟩
theorem notchesS_ev (l : List T) (hl : l.length ≤ maxLen) (hw : ∀ n ∈ l, wfT n) : Ev (fun k => spec_l01Notches.f k l) (validN l) := by
  unfold spec_l01Notches.f validN
  by_cases h60 : l.length ≤ 60
  · refine ev_neg (by omega) ?_
    rw [decide_eq_true h60, Bool.true_and]
    refine ev_forI (n := l.length) (G := fun k (_ : Unit) i => spec_l01Notches.l0 k l i) (F := fun _ i => chain (prev l i) (l.drop i)) (I := fun _ i => ∀ q : Nat, q + 1 = i → ∀ hq : q < l.length, ok1 l[q] = true) (fun i hi ih s hI => ?_) (fun s hI => ?_) 0 (by omega) () (fun q hq => by omega)
    · rw [chain_step l i hi]
      have hwi := hw l[i] (List.getElem_mem hi)
      have j1 : ok1 l[i] = true → Ev (fun k => spec_l01Notches.j1 k l (i : Int) false l[i].f0 l[i].f1) (okP (prev l i) l[i] && chain (prev l (i + 1)) (l.drop (i + 1))) := by
        intro h1
        have nx := ih () (fun q hq hq2 => by obtain rfl : q = i := by omega
                                             exact h1)
        by_cases h0 : i = 0
        · subst h0
          refine Ev.step (fun k => ?_) nx
          simp only [spec_l01Notches.j1]
          rw [if_neg (by simp), if_neg (by omega), wrap_up hi (by omega)]
        · have hp := hw (l[i - 1]'(by omega)) (List.getElem_mem _)
          have hk := ok1_kd (hI (i - 1) (by omega) (by omega))
          rw [prev_pos l i (by omega) hi]
          have e1 : wrap64 ((i : Int) - 1) = ((i - 1 : Nat) : Int) := by rw [wrap_id (by omega) (by omega)]; omega
          have hs : ∀ k, spec_l01Notches.j1 (k + 1) l (i : Int) false l[i].f0 l[i].f1 = if ok2 (l[i - 1]'(by omega)) l[i] = true then spec_l01Notches.l0 k l ((i : Int) + 1) else some false := by
            intro k
            simp only [spec_l01Notches.j1]
            rw [if_neg (by simp), if_pos (by omega), e1, if_pos (by omega), if_pos (by omega), rdT l (i - 1) (by omega), endS hp hk, wrap_i16 hwi, wrap_up hi (by omega)]
            simp only [Option.bind_some, ok2, decide_eq_true_eq]
            by_cases z1 : l[i].f0 > (l[i - 1]'(by omega)).f0
            · rw [if_pos z1, if_neg (by omega)]
            · rw [if_neg z1]
              by_cases z2 : l[i].f1 ≤ en (l[i - 1]'(by omega))
              · rw [if_pos z2, if_neg (by omega)]
              · rw [if_neg z2, if_pos (by omega)]
          refine Ev.step hs ?_
          by_cases z : ok2 (l[i - 1]'(by omega)) l[i] = true
          · refine ev_pos z (ev_eq nx ?_)
            simp [okP, z]
          · refine ev_neg z (ev_eq (Ev.now false) ?_)
            simp [okP, z]
      have jf : Ev (fun k => spec_l01Notches.j1 k l (i : Int) true l[i].f0 l[i].f1) false :=
        Ev.step (f := fun _ => some false) (fun k => by simp only [spec_l01Notches.j1]; rfl) (Ev.now _)
      have hs : ∀ k, spec_l01Notches.l0 (k + 1) l (i : Int) = spec_l01Notches.j1 k l (i : Int) (!ok1 l[i]) l[i].f0 l[i].f1 := by
        intro k
        simp only [spec_l01Notches.l0]
        rw [if_pos (by omega), if_pos (by omega), rdT l i hi, wrap_i8 hwi, kindS]
        simp only [Option.bind_some]
        by_cases hk : kd l[i].f0 = true
        · rw [if_pos hk]
          have hk' := of_decide_eq_true hk
          by_cases h1 : l[i].f1 < 0
          · rw [if_pos h1, show ok1 l[i] = false from decide_eq_false (by omega)]; rfl
          · rw [if_neg h1, endS hwi hk]
            simp only [Option.bind_some]
            congr 1
            by_cases h2 : en l[i] > 200
            · rw [show ok1 l[i] = false from decide_eq_false (by omega)]; simp [h2]
            · rw [show ok1 l[i] = true from decide_eq_true (by omega)]; simp [h2]
        · rw [if_neg hk]
          have hk' := of_decide_eq_false (Bool.eq_false_iff.mpr hk)
          rw [show ok1 l[i] = false from decide_eq_false (by omega)]; rfl
      refine Ev.step hs ?_
      cases ho : ok1 l[i] with
      | true => exact ev_eq (j1 ho) (by simp)
      | false => exact ev_eq jf (by simp)
    · refine ev_eq (Ev.step (f := fun _ => some true) (fun k => ?_) (Ev.now _)) ?_
      · simp only [spec_l01Notches.l0]
        rw [if_neg (by omega)]
      · rw [List.drop_length]; rfl
  · refine ev_pos (by omega) (ev_eq (Ev.now false) ?_)
    simp [h60]
theorem okS_ev (s : Bool) (l : List T) (g : G) (hl : l.length ≤ maxLen) (hw : ∀ n ∈ l, wfT n) : Ev (fun k => spec_l01Ok.f k s l g) (validH l g) := by
  unfold spec_l01Ok.f validH
  refine Ev.bind (notchesS_ev l hl hw) ?_
  by_cases h : validN l = true
  · rw [h]
    exact ev_pos rfl (Ev.bind (l01Grain_ev g) (Ev.now _))
  · refine ev_neg h (ev_eq (Ev.now false) ?_)
    simp [h]
theorem ValidHalfI_ev (s : Bool) (l : List T) (g : G) (hl : l.length ≤ maxLen) (hw : ∀ n ∈ l, wfT n) : Ev (fun k => impl_ValidHalf.f k s l g) (validH l g) := by
  unfold impl_ValidHalf.f validH validN
  have jt : Ev (fun k => impl_ValidHalf.j0 k true s l g) false :=
    Ev.step (f := fun _ => some false) (fun k => by simp only [impl_ValidHalf.j0]; rfl) (Ev.now _)
  by_cases h60 : l.length ≤ 60
  · refine ev_neg (by omega) ?_
    rw [decide_eq_true h60, Bool.true_and]
    refine Ev.bind (ValidGrainI_ev g) ?_
    cases hg : okG g with
    | false => exact ev_eq jt (by simp)
    | true =>
    rw [Bool.and_true]
    refine Ev.step (f := fun k => impl_ValidHalf.l0 k l (l.length : Int) 0 s l g) (fun k => by simp only [impl_ValidHalf.j0]; rfl) ?_
    refine ev_forI (n := l.length) (G := fun k (_ : Unit) i => impl_ValidHalf.l0 k l (l.length : Int) i s l g) (F := fun _ i => chain (prev l i) (l.drop i)) (I := fun _ i => ∀ q : Nat, q + 1 = i → ∀ hq : q < l.length, ok1 l[q] = true) (fun i hi ih u hI => ?_) (fun u hI => ?_) 0 (by omega) () (fun q hq => by omega)
    · rw [chain_step l i hi]
      have hwi := hw l[i] (List.getElem_mem hi)
      have j1 : ok1 l[i] = true → Ev (fun k => impl_ValidHalf.j2 k (i : Int) l (l.length : Int) (i : Int) false s l g l[i].f0 l[i].f1) (okP (prev l i) l[i] && chain (prev l (i + 1)) (l.drop (i + 1))) := by
        intro h1
        have nx := ih () (fun q hq hq2 => by obtain rfl : q = i := by omega
                                             exact h1)
        by_cases h0 : i = 0
        · subst h0
          refine Ev.step (fun k => ?_) nx
          simp only [impl_ValidHalf.j2]
          rw [if_neg (by simp), if_neg (by omega), wrap_up hi (by omega)]
        · have hp := hw (l[i - 1]'(by omega)) (List.getElem_mem _)
          have hk := ok1_kd (hI (i - 1) (by omega) (by omega))
          rw [prev_pos l i (by omega) hi]
          have e1 : wrap64 ((i : Int) - 1) = ((i - 1 : Nat) : Int) := by rw [wrap_id (by omega) (by omega)]; omega
          have hs : ∀ k, impl_ValidHalf.j2 (k + 1) (i : Int) l (l.length : Int) (i : Int) false s l g l[i].f0 l[i].f1 = if ok2 (l[i - 1]'(by omega)) l[i] = true then impl_ValidHalf.l0 k l (l.length : Int) ((i : Int) + 1) s l g else some false := by
            intro k
            simp only [impl_ValidHalf.j2]
            rw [if_neg (by simp), if_pos (by omega), e1, if_pos (by omega), if_pos (by omega), rdT l (i - 1) (by omega), endI hp hk, wrap_i16 hwi, wrap_up hi (by omega)]
            simp only [Option.bind_some, ok2, decide_eq_true_eq]
            by_cases z2 : l[i].f1 ≤ en (l[i - 1]'(by omega))
            · rw [if_pos z2, if_neg (by omega)]
            · rw [if_neg z2]
              by_cases z1 : l[i].f0 > (l[i - 1]'(by omega)).f0
              · rw [if_pos z1, if_neg (by omega)]
              · rw [if_neg z1, if_pos (by omega)]
          refine Ev.step hs ?_
          by_cases z : ok2 (l[i - 1]'(by omega)) l[i] = true
          · refine ev_pos z (ev_eq nx ?_)
            simp [okP, z]
          · refine ev_neg z (ev_eq (Ev.now false) ?_)
            simp [okP, z]
      have jf : Ev (fun k => impl_ValidHalf.j2 k (i : Int) l (l.length : Int) (i : Int) true s l g l[i].f0 l[i].f1) false :=
        Ev.step (f := fun _ => some false) (fun k => by simp only [impl_ValidHalf.j2]; rfl) (Ev.now _)
      have hs : ∀ k, impl_ValidHalf.l0 (k + 1) l (l.length : Int) (i : Int) s l g = impl_ValidHalf.j2 k (i : Int) l (l.length : Int) (i : Int) (!ok1 l[i]) s l g l[i].f0 l[i].f1 := by
        intro k
        simp only [impl_ValidHalf.l0]
        rw [if_pos (by omega), if_pos (by omega), if_pos (by omega), rdT l i hi, wrap_i8 hwi, kindI]
        simp only [Option.bind_some]
        by_cases hk : kd l[i].f0 = true
        · rw [if_pos hk]
          have hk' := of_decide_eq_true hk
          by_cases h1 : l[i].f1 < 0
          · rw [if_pos h1, show ok1 l[i] = false from decide_eq_false (by omega)]; rfl
          · rw [if_neg h1, endI hwi hk]
            simp only [Option.bind_some]
            congr 1
            by_cases h2 : en l[i] > 200
            · rw [show ok1 l[i] = false from decide_eq_false (by omega)]; simp [h2]
            · rw [show ok1 l[i] = true from decide_eq_true (by omega)]; simp [h2]
        · rw [if_neg hk]
          have hk' := of_decide_eq_false (Bool.eq_false_iff.mpr hk)
          rw [show ok1 l[i] = false from decide_eq_false (by omega)]; rfl
      refine Ev.step hs ?_
      cases ho : ok1 l[i] with
      | true => exact ev_eq (j1 ho) (by simp)
      | false => exact ev_eq jf (by simp)
    · refine ev_eq (Ev.step (f := fun _ => some true) (fun k => ?_) (Ev.now _)) ?_
      · simp only [impl_ValidHalf.l0]
        rw [if_neg (by omega)]
      · rw [List.drop_length]; rfl
  · refine ev_pos (by omega) (ev_eq jt ?_)
    simp [h60]
theorem chain_ok1 : ∀ (p : Option T) (l : List T), chain p l = true → ∀ n ∈ l, ok1 n = true
  | _, [], _, n, hn => by simp at hn
  | p, a :: l, h, n, hn => by
    simp only [chain, Bool.and_eq_true] at h
    rcases List.mem_cons.1 hn with rfl | hn
    · exact h.1.1
    · exact chain_ok1 _ l h.2 n hn
theorem valid_ok1 {l : List T} (h : validN l = true) : ∀ n ∈ l, ok1 n = true := by
  simp only [validN, Bool.and_eq_true] at h
  exact chain_ok1 none l h.2
theorem valid_len {l : List T} (h : validN l = true) : l.length ≤ 60 := by
  simp only [validN, Bool.and_eq_true, decide_eq_true_eq] at h
  exact h.1
theorem validH_N {l : List T} {g : G} (h : validH l g = true) : validN l = true := by
  simp only [validH, Bool.and_eq_true] at h
  exact h.1
end Go.Proofs.YtcblnnfodpglaaaGreatDoor.PuNotchNotched
-- a text of this session, cut down for this claim
namespace Go.Proofs.YtcblnnfodpglaaaGreatDoor.PuNotchSNotched
open Go.RowKit Go.Proofs.YtcblnnfodpglaaaGreatDoor.MNotched Go.Proofs.YtcblnnfodpglaaaGreatDoorW.PrintWords Go.Proofs.YtcblnnfodpglaaaGreatDoorW.PrintLast Go.Proofs.YtcblnnfodpglaaaGreatDoor.Evs Go.Proofs.YtcblnnfodpglaaaGreatDoor.PuGrainNotched Go.Proofs.YtcblnnfodpglaaaGreatDoor.PuNotchNotched
set_option linter.unusedVariables false
set_option linter.unusedSimpArgs false
noncomputable def dec (p : Prop) : Bool := @decide p (Classical.propDecidable p)
theorem dec_true {p : Prop} (h : p) : dec p = true := by unfold dec; exact @decide_eq_true p (Classical.propDecidable p) h
theorem dec_false {p : Prop} (h : ¬ p) : dec p = false := by unfold dec; exact @decide_eq_false p (Classical.propDecidable p) h
theorem T.eq_iff (a b : T) : a = b ↔ a.f0 = b.f0 ∧ a.f1 = b.f1 := ⟨fun h => by subst h; exact ⟨rfl, rfl⟩, fun h => T.ext h.1 h.2⟩
theorem drop_eq_iff {α : Type} (a b : List α) (i : Nat) (ha : i < a.length) (hb : i < b.length) : a.drop i = b.drop i ↔ a[i] = b[i] ∧ a.drop (i + 1) = b.drop (i + 1) := by
  rw [List.drop_eq_getElem_cons ha, List.drop_eq_getElem_cons hb, List.cons.injEq]
theorem neT {a b : T} : (!(a.f0 == b.f0) || (!(a.f1 == b.f1))) = true ↔ ¬ a = b := by
  rw [T.eq_iff]; simp; omega
theorem sameS_ev (a b : List T) (h : a.length ≤ maxLen) : Ev (fun k => spec_l01SameNotches.f k a b) (dec (a = b)) := by
  unfold spec_l01SameNotches.f
  unfold maxLen at h
  by_cases hl : a.length = b.length
  · refine ev_pos (by omega) ?_
    have key := fun (i : Nat) (hi : i ≤ a.length) => ev_for (n := a.length) (G := fun k (_ : Unit) i => spec_l01SameNotches.l0 k a b i) (F := fun _ i => dec (a.drop i = b.drop i)) (fun i hi ih _ => by
      by_cases he : a[i] = b[i]
      · refine ev_eq (Ev.step (fun k => ?_) (ih ())) ?_
        · simp only [spec_l01SameNotches.l0]
          rw [if_pos (by omega), if_pos (by omega), if_pos (by omega), rdT a i hi, rdT b i (by omega), if_neg (by rw [neT]; exact fun h => h he), wrap_up hi (by omega)]
        · congr 1
          rw [drop_eq_iff a b i hi (by omega)]
          simp [he]
      · refine ev_eq (Ev.step (f := fun _ => some false) (fun k => ?_) (Ev.now _)) ?_
        · simp only [spec_l01SameNotches.l0]
          rw [if_pos (by omega), if_pos (by omega), if_pos (by omega), rdT a i hi, rdT b i (by omega), if_pos (neT.2 he)]
        · rw [drop_eq_iff a b i hi (by omega)]
          exact (dec_false (fun h => he h.1)).symm) (fun _ => by
      refine ev_eq (Ev.step (f := fun _ => some true) (fun k => ?_) (Ev.now _)) ?_
      · simp only [spec_l01SameNotches.l0]
        rw [if_neg (by omega)]
      · exact (dec_true (by rw [List.drop_of_length_le (by omega), List.drop_of_length_le (by omega)])).symm) i hi ()
    simpa using key 0 (by omega)
  · refine ev_neg (by omega) (ev_eq (Ev.now false) (dec_false (fun h => hl (by rw [h]))).symm)
theorem sameI_ev (a b : List T) (h : a.length ≤ maxLen) : Ev (fun k => impl_Notch_34.f k a b) (dec (a = b)) := by
  unfold impl_Notch_34.f
  unfold maxLen at h
  by_cases hl : a.length = b.length
  · refine ev_pos (by omega) ?_
    have key := fun (i : Nat) (hi : i ≤ a.length) => ev_for (n := a.length) (G := fun k (_ : Unit) i => impl_Notch_34.l0 k a b (a.length : Int) i) (F := fun _ i => dec (a.drop i = b.drop i)) (fun i hi ih _ => by
      by_cases he : a[i] = b[i]
      · refine ev_eq (Ev.step (fun k => ?_) (ih ())) ?_
        · simp only [impl_Notch_34.l0]
          rw [if_pos (by omega), if_pos (by omega), if_pos (by omega), if_pos (by omega), rdT a i hi, rdT b i (by omega), if_neg (by rw [neT]; exact fun h => h he), wrap_up hi (by omega)]
        · congr 1
          rw [drop_eq_iff a b i hi (by omega)]
          simp [he]
      · refine ev_eq (Ev.step (f := fun _ => some false) (fun k => ?_) (Ev.now _)) ?_
        · simp only [impl_Notch_34.l0]
          rw [if_pos (by omega), if_pos (by omega), if_pos (by omega), if_pos (by omega), rdT a i hi, rdT b i (by omega), if_pos (neT.2 he)]
        · rw [drop_eq_iff a b i hi (by omega)]
          exact (dec_false (fun h => he h.1)).symm) (fun _ => by
      refine ev_eq (Ev.step (f := fun _ => some true) (fun k => ?_) (Ev.now _)) ?_
      · simp only [impl_Notch_34.l0]
        rw [if_neg (by omega)]
      · exact (dec_true (by rw [List.drop_of_length_le (by omega), List.drop_of_length_le (by omega)])).symm) i hi ()
    simpa using key 0 (by omega)
  · refine ev_neg (by omega) (ev_eq (Ev.now false) (dec_false (fun h => hl (by rw [h]))).symm)
noncomputable def sameH (s : Bool) (l : List T) (g : G) (s2 : Bool) (l2 : List T) (g2 : G) : Bool := s == s2 && (dec (g = g2) && dec (l = l2))
theorem samePS_ev (s : Bool) (l : List T) (g : G) (s2 : Bool) (l2 : List T) (g2 : G) (h : l.length ≤ maxLen) : Ev (fun k => spec_l01Same.f k s l g s2 l2 g2) (sameH s l g s2 l2 g2) := by
  unfold spec_l01Same.f sameH
  by_cases h1 : (s == s2) = true
  · refine ev_pos h1 ?_
    rw [h1, Bool.true_and]
    by_cases h2 : g = g2
    · refine ev_pos h2 (Ev.bind (sameS_ev l l2 h) (ev_eq (Ev.now _) ?_))
      rw [dec_true h2, Bool.true_and]
    · refine ev_neg h2 (ev_eq (Ev.now _) ?_)
      rw [dec_false h2, Bool.false_and]
  · refine ev_neg h1 (ev_eq (Ev.now _) ?_)
    rw [Bool.eq_false_iff.mpr h1, Bool.false_and]
theorem SameHalfS_ev (s : Bool) (l : List T) (g : G) (s2 : Bool) (l2 : List T) (g2 : G) (h : l.length ≤ maxLen) : Ev (fun k => spec_SameHalf.f k s l g s2 l2 g2) (sameH s l g s2 l2 g2) := by
  unfold spec_SameHalf.f
  exact Ev.bind (samePS_ev s l g s2 l2 g2 h) (Ev.now _)
theorem SameHalfI_ev (s : Bool) (l : List T) (g : G) (s2 : Bool) (l2 : List T) (g2 : G) (h : l.length ≤ maxLen) : Ev (fun k => impl_SameHalf.f k s l g s2 l2 g2) (sameH s l g s2 l2 g2) := by
  unfold impl_SameHalf.f sameH
  by_cases h1 : (s == s2) = true
  · refine ev_pos h1 ?_
    rw [h1, Bool.true_and]
    by_cases h2 : g = g2
    · refine ev_pos h2 (Ev.bind (sameI_ev l l2 h) (ev_eq (Ev.now _) ?_))
      rw [dec_true h2, Bool.true_and]
    · refine ev_neg h2 (ev_eq (Ev.now _) ?_)
      rw [dec_false h2, Bool.false_and]
  · refine ev_neg h1 (ev_eq (Ev.now _) ?_)
    rw [Bool.eq_false_iff.mpr h1, Bool.false_and]
theorem sameH_self (s : Bool) (l : List T) (g : G) : sameH s l g s l g = true := by
  unfold sameH
  rw [dec_true rfl, dec_true rfl]; simp
end Go.Proofs.YtcblnnfodpglaaaGreatDoor.PuNotchSNotched
-- a text of this session, cut down for this claim
namespace Go.Proofs.YtcblnnfodpglaaaGreatDoor.PuHalf1Notched
open Go.RowKit Go.Proofs.YtcblnnfodpglaaaGreatDoor.MNotched Go.Proofs.YtcblnnfodpglaaaGreatDoorW.PrintWords Go.Proofs.YtcblnnfodpglaaaGreatDoorW.PrintLast Go.Proofs.YtcblnnfodpglaaaGreatDoor.Evs Go.Proofs.YtcblnnfodpglaaaGreatDoor.PuGrainNotched Go.Proofs.YtcblnnfodpglaaaGreatDoor.PuNotchNotched
set_option linter.unusedVariables false
set_option linter.unusedSimpArgs false
def lastE (l : List T) : Int := if h : l.length = 0 then 0 else en (l[l.length - 1]'(by omega))
def endR (l : List T) (g : G) : Int × Int := if validH l g = true then (lastE l, 0) else (0, 1)
theorem EndI_ev (s : Bool) (l : List T) (g : G) (hl : l.length ≤ maxLen) (hw : ∀ n ∈ l, wfT n) : Ev (fun k => impl_EndOf.f k s l g) (endR l g) := by
  unfold impl_EndOf.f endR
  unfold maxLen at hl
  refine Ev.bind (ValidHalfI_ev s l g hl hw) ?_
  by_cases h : validH l g = true
  · refine ev_ifp h (ev_pos h ?_)
    unfold lastE
    by_cases h0 : l.length = 0
    · rw [dif_pos h0]; exact ev_pos (by omega) (Ev.now _)
    · rw [dif_neg h0]
      have e1 : wrap64 ((l.length : Int) - 1) = ((l.length - 1 : Nat) : Int) := by rw [wrap_id (by omega) (by omega)]; omega
      have hm : l[l.length - 1]'(by omega) ∈ l := List.getElem_mem _
      refine ev_neg (by omega) ?_
      rw [e1, rdT l (l.length - 1) (by omega), endI (hw _ hm) (ok1_kd (valid_ok1 (validH_N h) _ hm))]
      exact ev_pos (by omega) (ev_pos (by omega) (Ev.now _))
  · exact ev_ifn h (ev_neg h (Ev.now _))
def wo (k : Int) : Int := ([1, 12, 240, 4800, 24000, 240000] : List Int).getD k.toNat 0
theorem wo_bd (k : Int) : 0 ≤ wo k ∧ wo k ≤ 240000 := by
  unfold wo
  generalize k.toNat = m
  match m with
  | 0 => decide
  | 1 => decide
  | 2 => decide
  | 3 => decide
  | 4 => decide
  | 5 => decide
  | m + 6 => simp
theorem wo_pos (k : Int) (h0 : 0 ≤ k) (h1 : k ≤ 5) : 1 ≤ wo k := by
  unfold wo
  have : k.toNat ≤ 5 := by omega
  generalize k.toNat = m at this
  match m, this with
  | 0, _ => decide
  | 1, _ => decide
  | 2, _ => decide
  | 3, _ => decide
  | 4, _ => decide
  | 5, _ => decide
  | m + 6, h => omega
def sumN (l : List T) : Int := (l.map fun n => wo n.f0).sum
theorem sumN_drop (l : List T) (i : Nat) (h : i < l.length) : sumN (l.drop i) = wo l[i].f0 + sumN (l.drop (i + 1)) := by
  rw [List.drop_eq_getElem_cons h]; rfl
theorem worthI {k : Int} (h : kd k = true) : impl_worth.f k = some (wo k) := by
  have h := of_decide_eq_true h
  unfold impl_worth.f
  simp only [Option.bind_some]
  rw [if_pos h.1, if_pos (by simp; omega)]; rfl
def amtR (l : List T) (g : G) : Int × Int := if validH l g = true then (sumN l, 0) else (0, 1)
theorem sumI_ev (s0 : Bool) (l : List T) (g : G) (h : validN l = true) (hw : ∀ n ∈ l, wfT n) : Ev (fun k => impl_amountOf.f k s0 l g) (sumN l) := by
  have hlen := valid_len h
  unfold impl_amountOf.f
  refine ev_eq (ev_forI (n := l.length) (G := fun k s i => impl_amountOf.l0 k s l (l.length : Int) i) (F := fun s i => s + sumN (l.drop i)) (I := fun s i => 0 ≤ s ∧ s ≤ (i : Int) * 240000) (fun i hi ih s hI => ?_) (fun s hI => ?_) 0 (by omega) 0 (by simp)) (by simp)
  · have hk := ok1_kd (valid_ok1 h l[i] (List.getElem_mem hi))
    have hb := wo_bd l[i].f0
    refine ev_eq (Ev.step (f := fun k => impl_amountOf.l0 k (s + wo l[i].f0) l (l.length : Int) ((i : Int) + 1)) (fun k => ?_) (ih (s + wo l[i].f0) ⟨by omega, by omega⟩)) ?_
    · simp only [impl_amountOf.l0]
      rw [if_pos (by omega), if_pos (by omega), if_pos (by omega), rdT l i hi, wrap_i8 (hw _ (List.getElem_mem hi)), worthI hk]
      simp only [Option.bind_some]
      rw [wrap_up hi (by omega), wrap_id (by omega) (by omega)]
    · rw [sumN_drop l i hi, Int.add_assoc]
  · refine ev_eq (Ev.step (f := fun _ => some s) (fun k => ?_) (Ev.now _)) ?_
    · simp only [impl_amountOf.l0]; rw [if_neg (by omega)]
    · simp [sumN]
theorem AmountI_ev (s : Bool) (l : List T) (g : G) (hl : l.length ≤ maxLen) (hw : ∀ n ∈ l, wfT n) : Ev (fun k => impl_AmountOf.f k s l g) (amtR l g) := by
  unfold impl_AmountOf.f amtR
  refine Ev.bind (ValidHalfI_ev s l g hl hw) ?_
  by_cases h : validH l g = true
  · refine ev_ifp h ?_
    exact ev_pos h (Ev.bind (sumI_ev s l g (validH_N h) hw) (Ev.now _))
  · exact ev_ifn h (ev_neg h (Ev.now _))
theorem askedS_ev (s : Bool) (l : List T) (g : G) (q : Int) (hl : l.length ≤ maxLen) (hw : ∀ n ∈ l, wfT n) : Ev (fun k => spec_l01Asked.f k s l g q) (if validH l g = true then (if kd q = true then 0 else 2) else 1) := by
  unfold spec_l01Asked.f
  refine Ev.bind (okS_ev s l g hl hw) ?_
  by_cases h : validH l g = true
  · refine ev_ifp h (ev_pos h (ev_bind0 (kindS q) ?_))
    by_cases h2 : kd q = true
    · exact ev_ifp h2 (ev_pos h2 (Ev.now _))
    · exact ev_ifn h2 (ev_neg h2 (Ev.now _))
  · exact ev_ifn h (ev_neg h (Ev.now _))
end Go.Proofs.YtcblnnfodpglaaaGreatDoor.PuHalf1Notched
-- a text of this session, cut down for this claim
namespace Go.Proofs.YtcblnnfodpglaaaGreatDoor.PuPairNotched
open Go.RowKit Go.Proofs.YtcblnnfodpglaaaGreatDoor.MNotched Go.Proofs.YtcblnnfodpglaaaGreatDoorW.PrintWords Go.Proofs.YtcblnnfodpglaaaGreatDoorW.PrintLast Go.Proofs.YtcblnnfodpglaaaGreatDoor.Evs Go.Proofs.YtcblnnfodpglaaaGreatDoor.PuGrainNotched Go.Proofs.YtcblnnfodpglaaaGreatDoor.PuFitNotched Go.Proofs.YtcblnnfodpglaaaGreatDoor.PuNotchNotched Go.Proofs.YtcblnnfodpglaaaGreatDoor.PuNotchSNotched
set_option linter.unusedVariables false
set_option linter.unusedSimpArgs false
def pairC (s : Bool) (l : List T) (g : G) (s2 : Bool) (l2 : List T) (g2 : G) (w : Int) : Int :=
  if validH l g = true ∧ validH l2 g2 = true then (if 0 ≤ w ∧ w ≤ 16 then (if s = true ∧ s2 = false then 0 else 4) else 2) else 1
noncomputable def fitsR (s : Bool) (l : List T) (g : G) (s2 : Bool) (l2 : List T) (g2 : G) (w : Int) : Bool × Int :=
  if pairC s l g s2 l2 g2 w = 0 then (dec (l = l2) && fitG g g2 w, 0) else (false, pairC s l g s2 l2 g2 w)
theorem FitsI_ev (s : Bool) (l : List T) (g : G) (s2 : Bool) (l2 : List T) (g2 : G) (w : Int) (hl : l.length ≤ maxLen) (hl2 : l2.length ≤ maxLen) (hw : ∀ n ∈ l, wfT n) (hw2 : ∀ n ∈ l2, wfT n) :
    Ev (fun k => impl_Fits.f k s l g s2 l2 g2 w) (fitsR s l g s2 l2 g2 w) := by
  unfold impl_Fits.f
  have bad : ¬ (validH l g = true ∧ validH l2 g2 = true) → Ev (fun k => impl_Fits.j0 k w true s l g s2 l2 g2) (fitsR s l g s2 l2 g2 w) := by
    intro h
    have e : pairC s l g s2 l2 g2 w = 1 := if_neg h
    unfold fitsR
    rw [e]
    exact ev_ifn (by decide) (Ev.step (f := fun _ => some (false, 1)) (fun k => by simp only [impl_Fits.j0]; rfl) (Ev.now _))
  refine Ev.bind (ValidHalfI_ev s l g hl hw) ?_
  by_cases h : validH l g = true
  · refine ev_pos h (Ev.bind (ValidHalfI_ev s2 l2 g2 hl2 hw2) ?_)
    by_cases h2 : validH l2 g2 = true
    · have e : pairC s l g s2 l2 g2 w = if 0 ≤ w ∧ w ≤ 16 then (if s = true ∧ s2 = false then 0 else 4) else 2 := if_pos ⟨h, h2⟩
      unfold fitsR
      rw [e, h2]
      refine Ev.step (fun k => by simp only [impl_Fits.j0]; rfl) (ev_neg (by simp) (ev_bind0 (isWear_eq w) ?_))
      by_cases h3 : 0 ≤ w ∧ w ≤ 16
      · rw [if_pos h3]
        refine ev_pos (by simpa using h3) ?_
        cases s with
        | false => exact ev_neg (by simp) (Ev.now _)
        | true =>
          cases s2 with
          | true => exact ev_pos rfl (ev_pos rfl (Ev.now _))
          | false =>
            refine ev_pos rfl (ev_neg (by simp) ?_)
            rw [if_pos (show true = true ∧ false = false from ⟨rfl, rfl⟩)]
            refine ev_ifp rfl ?_
            refine Ev.bind (a := dec (l = l2) && fitG g g2 w) ?_ (Ev.now _)
            unfold impl_fits.f
            refine Ev.bind (sameI_ev l l2 hl) ?_
            by_cases h4 : l = l2
            · rw [dec_true h4]
              exact ev_pos rfl (Ev.bind (fitI_ev g g2 w) (Ev.now _))
            · rw [dec_false h4]
              exact ev_neg (by simp) (Ev.now _)
      · rw [if_neg h3]
        exact ev_neg (by simpa using h3) (Ev.now _)
    · rw [Bool.eq_false_iff.mpr h2]
      exact bad (fun z => h2 z.2)
  · exact ev_neg h (bad (fun z => h z.1))
end Go.Proofs.YtcblnnfodpglaaaGreatDoor.PuPairNotched
-- a text of this session, cut down for this claim
namespace Go.Proofs.YtcblnnfodpglaaaGreatDoor.PuMisNotched
open Go.RowKit Go.Proofs.YtcblnnfodpglaaaGreatDoor.MNotched Go.Proofs.YtcblnnfodpglaaaGreatDoorW.PrintWords Go.Proofs.YtcblnnfodpglaaaGreatDoorW.PrintLast Go.Proofs.YtcblnnfodpglaaaGreatDoorW.PrintMore Go.Proofs.YtcblnnfodpglaaaGreatDoor.Evs Go.Proofs.YtcblnnfodpglaaaGreatDoor.PuGrainNotched Go.Proofs.YtcblnnfodpglaaaGreatDoor.PuFitNotched Go.Proofs.YtcblnnfodpglaaaGreatDoor.PuNotchNotched Go.Proofs.YtcblnnfodpglaaaGreatDoor.PuNotchSNotched Go.Proofs.YtcblnnfodpglaaaGreatDoor.PuPairNotched
set_option linter.unusedVariables false
set_option linter.unusedSimpArgs false
def most (a b : List T) : Nat := if a.length < b.length then b.length else a.length
theorem mx_most (a b : List T) : mx (a.length : Int) (b.length : Int) = (most a b : Int) := by
  unfold mx most
  by_cases h : a.length < b.length
  · rw [if_pos h, if_pos (by omega)]
  · rw [if_neg h, if_neg (by omega)]
theorem most_iff (a b : List T) (i : Nat) : i < most a b ↔ i < a.length ∨ i < b.length := by
  unfold most
  by_cases h : a.length < b.length
  · rw [if_pos h]; omega
  · rw [if_neg h]; omega
noncomputable def misFrom (a b : List T) (i : Nat) : List Int := ((List.range' i (most a b - i)).filter fun q => dec (a[q]? ≠ b[q]?)).map (fun (q : Nat) => (q : Int))
theorem misFrom_step (a b : List T) (i : Nat) (h : i < most a b) : misFrom a b i = if dec (a[i]? ≠ b[i]?) = true then (i : Int) :: misFrom a b (i + 1) else misFrom a b (i + 1) := by
  unfold misFrom
  rw [show most a b - i = (most a b - (i + 1)) + 1 by omega, List.range'_succ, List.filter_cons]
  cases e : dec (a[i]? ≠ b[i]?)
  · simp
  · simp
theorem misFrom_end (a b : List T) (i : Nat) (h : most a b ≤ i) : misFrom a b i = [] := by
  unfold misFrom
  rw [show most a b - i = 0 by omega]; rfl
theorem misfitsI_ev (s s2 : Bool) (a b : List T) (g g2 : G) (ha : a.length ≤ 1048576) (hb : b.length ≤ 1048576) : Ev (fun k => impl_misfits.f k s a g s2 b g2) (misFrom a b 0) := by
  unfold impl_misfits.f
  rw [mx_most]
  have hm : most a b ≤ 1048576 := by unfold most; split <;> omega
  refine ev_eq (ev_forI (n := most a b) (G := fun k x i => impl_misfits.l0 k x a b (most a b : Int) i) (F := fun x i => x ++ misFrom a b i) (I := fun x i => x.length ≤ i) (fun i hi ih x hI => ?_) (fun x hI => ?_) 0 (by omega) [] (by simp)) (by simp)
  · have yes : dec (a[i]? ≠ b[i]?) = true → Ev (fun k => impl_misfits.l0 k (x ++ [(i : Int)]) a b (most a b : Int) ((i : Int) + 1)) (x ++ misFrom a b i) := by
      intro e
      refine ev_eq (ih (x ++ [(i : Int)]) (by simp; omega)) ?_
      rw [misFrom_step a b i hi, if_pos e, List.append_assoc]; rfl
    have no : ¬ dec (a[i]? ≠ b[i]?) = true → Ev (fun k => impl_misfits.l0 k x a b (most a b : Int) ((i : Int) + 1)) (x ++ misFrom a b i) := by
      intro e
      refine ev_eq (ih x (by omega)) ?_
      rw [misFrom_step a b i hi, if_neg e]
    by_cases h1 : a.length ≤ i
    · refine Ev.step (fun k => ?_) (yes (dec_true (by rw [List.getElem?_eq_none h1, List.getElem?_eq_getElem (by have := (most_iff a b i).1 hi; omega)]; simp)))
      simp only [impl_misfits.l0]
      rw [if_pos (by omega), if_pos (by omega), if_pos (by omega), wrap_up hi (by omega)]
    · by_cases h2 : b.length ≤ i
      · refine Ev.step (fun k => ?_) (yes (dec_true (by rw [List.getElem?_eq_none h2, List.getElem?_eq_getElem (by omega)]; simp)))
        simp only [impl_misfits.l0]
        rw [if_pos (by omega), if_neg (by omega), if_pos (by omega), if_pos (by omega), wrap_up hi (by omega)]
      · by_cases h3 : a[i] = b[i]
        · refine Ev.step (fun k => ?_) (no (by rw [dec_false (by rw [List.getElem?_eq_getElem (by omega), List.getElem?_eq_getElem (by omega), h3]; simp)]; simp))
          simp only [impl_misfits.l0]
          rw [if_pos (by omega), if_neg (by omega), if_neg (by omega), if_pos (by omega), if_pos (by omega), if_pos (by omega), rdT a i (by omega), rdT b i (by omega), if_neg (by rw [neT]; exact fun z => z h3), wrap_up hi (by omega)]
        · refine Ev.step (fun k => ?_) (yes (dec_true (by rw [List.getElem?_eq_getElem (by omega), List.getElem?_eq_getElem (by omega)]; simpa using h3)))
          simp only [impl_misfits.l0]
          rw [if_pos (by omega), if_neg (by omega), if_neg (by omega), if_pos (by omega), if_pos (by omega), if_pos (by omega), rdT a i (by omega), rdT b i (by omega), if_pos (neT.2 h3), if_pos (by omega), wrap_up hi (by omega)]
  · refine ev_eq (Ev.step (f := fun _ => some x) (fun k => ?_) (Ev.now _)) (by rw [misFrom_end a b _ (Nat.le_refl _), List.append_nil])
    simp only [impl_misfits.l0]
    rw [if_neg (by omega)]
noncomputable def misR (s : Bool) (a : List T) (g : G) (s2 : Bool) (b : List T) (g2 : G) : List Int × List Int × Int :=
  if pairC s a g s2 b g2 0 = 0 then (misFrom a b 0, wornFrom g g2 0, 0) else ([], [], pairC s a g s2 b g2 0)
theorem MisI_ev (s : Bool) (a : List T) (g : G) (s2 : Bool) (b : List T) (g2 : G) (ha : a.length ≤ 1048576) (hb : b.length ≤ 1048576) (hw : ∀ n ∈ a, wfT n) (hw2 : ∀ n ∈ b, wfT n) :
    Ev (fun k => impl_MisfitsOf.f k s a g s2 b g2) (misR s a g s2 b g2) := by
  unfold impl_MisfitsOf.f
  have bad : ¬ (validH a g = true ∧ validH b g2 = true) → Ev (fun k => impl_MisfitsOf.j0 k true s a g s2 b g2) (misR s a g s2 b g2) := by
    intro h
    have e : pairC s a g s2 b g2 0 = 1 := if_neg h
    unfold misR
    rw [e]
    exact ev_ifn (by decide) (Ev.step (f := fun _ => some ([], [], 1)) (fun k => by simp only [impl_MisfitsOf.j0]; rfl) (Ev.now _))
  refine Ev.bind (ValidHalfI_ev s a g (by unfold maxLen; omega) hw) ?_
  by_cases h : validH a g = true
  · refine ev_pos h (Ev.bind (ValidHalfI_ev s2 b g2 (by unfold maxLen; omega) hw2) ?_)
    by_cases h2 : validH b g2 = true
    · have e : pairC s a g s2 b g2 0 = if s = true ∧ s2 = false then 0 else 4 := (if_pos ⟨h, h2⟩).trans (if_pos (by omega))
      unfold misR
      rw [e, h2]
      refine Ev.step (fun k => by simp only [impl_MisfitsOf.j0]; rfl) (ev_neg (by simp) ?_)
      cases s with
      | false => exact ev_neg (by simp) (Ev.step (f := fun _ => some ([], [], 4)) (fun k => by simp only [impl_MisfitsOf.j1]; rfl) (Ev.now _))
      | true =>
        refine ev_pos rfl ?_
        cases s2 with
        | true => exact Ev.step (f := fun _ => some ([], [], 4)) (fun k => by simp only [impl_MisfitsOf.j1]; rfl) (Ev.now _)
        | false =>
          rw [if_pos (show true = true ∧ false = false from ⟨rfl, rfl⟩)]
          refine ev_ifp rfl (Ev.step (fun k => by simp only [impl_MisfitsOf.j1]; rfl) (ev_neg (by simp) ?_))
          exact Ev.bind (misfitsI_ev true false a b g g2 ha hb) (Ev.bind (wornI_ev g g2) (Ev.now _))
    · rw [Bool.eq_false_iff.mpr h2]
      exact bad (fun z => h2 z.2)
  · exact ev_neg h (bad (fun z => h z.1))
end Go.Proofs.YtcblnnfodpglaaaGreatDoor.PuMisNotched
-- a text of this session, cut down for this claim
namespace Go.Proofs.YtcblnnfodpglaaaGreatDoor.PuBytNotched
open Go.RowKit Go.Proofs.YtcblnnfodpglaaaGreatDoor.MNotched Go.Proofs.YtcblnnfodpglaaaGreatDoorW.PrintWords Go.Proofs.YtcblnnfodpglaaaGreatDoorW.PrintLast Go.Proofs.YtcblnnfodpglaaaGreatDoor.Evs
set_option linter.unusedVariables false
set_option linter.unusedSimpArgs false
def mkB (l : List UInt8) : ByteArray := ⟨l.toArray⟩
theorem mkB_size (l : List UInt8) : (mkB l).size = l.length := by simp [mkB, ByteArray.size]
theorem mkB_toList (l : List UInt8) : (mkB l).toList = l := by rw [ByteArray.toList_eq]; simp [mkB]
theorem mkB_data (l : List UInt8) : (mkB l).data.toList = l := by simp [mkB]
theorem mkB_append (a b : List UInt8) : mkB a ++ mkB b = mkB (a ++ b) := by
  apply ByteArray.ext
  rw [ByteArray.data_append]
  simp [mkB]
theorem mkB_of (s : ByteArray) : mkB s.data.toList = s := by simp [mkB]
def decB (n : Nat) : ByteArray := mkB (Lib.decDigits n)
theorem dec_small {n : Nat} (h : n < 10) : Lib.decDigits n = [UInt8.ofNat (48 + n)] := Lib.decDigits_one h
theorem dec_big {n : Nat} (h : ¬ n < 10) : Lib.decDigits n = Lib.decDigits (n / 10) ++ [UInt8.ofNat (48 + n % 10)] := by rw [Lib.decDigits, dif_neg h]
theorem dec_len (m : Nat) : ∀ n : Nat, n < 10 ^ (m + 1) → (Lib.decDigits n).length ≤ m + 1 := by
  induction m with
  | zero => intro n hn; rw [dec_small (by omega)]; simp
  | succ m ih =>
    intro n hn
    by_cases h : n < 10
    · rw [dec_small h]; simp
    · rw [dec_big h, List.length_append]
      have : n / 10 < 10 ^ (m + 1) := by rw [Nat.div_lt_iff_lt_mul (by omega)]; rw [Nat.pow_succ] at hn; exact hn
      have := ih _ this
      simp
      omega
theorem dec_ne (n : Nat) : Lib.decDigits n ≠ [] := by
  by_cases h : n < 10
  · rw [dec_small h]; simp
  · rw [dec_big h]; simp
theorem decimal_eq (n : Int) (h0 : 0 ≤ n) (h1 : n < 1000000000000000000) : impl_decimal.f n = some (decB n.toNat) := by
  unfold impl_decimal.f strconv_FormatInt.f
  rw [if_pos ⟨rfl, by omega, by omega⟩]
  have : Lib.itoa n = Lib.decDigits n.toNat := by unfold Lib.itoa; rw [if_neg (by omega)]
  rw [this]
  rfl
end Go.Proofs.YtcblnnfodpglaaaGreatDoor.PuBytNotched
-- a text of this session, cut down for this claim
namespace Go.Proofs.YtcblnnfodpglaaaGreatDoor.PuWordsNotched
open Go.RowKit Go.Proofs.YtcblnnfodpglaaaGreatDoor.MNotched Go.Proofs.YtcblnnfodpglaaaGreatDoorW.PrintWords Go.Proofs.YtcblnnfodpglaaaGreatDoorW.PrintLast Go.Proofs.YtcblnnfodpglaaaGreatDoor.Evs Go.Proofs.YtcblnnfodpglaaaGreatDoor.PuBytNotched
set_option linter.unusedVariables false
set_option linter.unusedSimpArgs false
def glue (p : List UInt8) : List (List UInt8) → List (List UInt8)
  | [] => [p]
  | w :: ws => (p ++ w) :: ws
def words (c : UInt8) : List UInt8 → List (List UInt8)
  | [] => [[]]
  | b :: l => if b = c then [] :: words c l else glue [b] (words c l)
theorem glue_ne (p : List UInt8) (ws : List (List UInt8)) : glue p ws ≠ [] := by cases ws <;> simp [glue]
theorem words_ne (c : UInt8) (l : List UInt8) : words c l ≠ [] := by
  cases l with
  | nil => simp [words]
  | cons b l => unfold words; split; simp; exact glue_ne _ _
theorem words_none {c : UInt8} : ∀ {l : List UInt8}, c ∉ l → words c l = [l]
  | [], _ => rfl
  | b :: l, h => by
    simp only [List.mem_cons, not_or] at h
    unfold words
    rw [if_neg (fun e => h.1 e.symm), words_none h.2]
    rfl
theorem words_hit {c : UInt8} (r : List UInt8) : ∀ {a : List UInt8}, c ∉ a → words c (a ++ c :: r) = a :: words c r
  | [], _ => by show words c (c :: r) = _; rw [words, if_pos rfl]
  | b :: l, h => by
    simp only [List.mem_cons, not_or] at h
    show words c (b :: (l ++ c :: r)) = _
    rw [words, if_neg (fun e => h.1 e.symm), words_hit r h.2]
    rfl
theorem splitK_words (c : UInt8) : ∀ (n : Nat) (l : List UInt8), l.length ≤ n → Lib.splitK [c] 0 (Lib.count l [c]) l = words c l := by
  intro n
  induction n with
  | zero =>
    intro l hl
    have : l = [] := List.length_eq_zero_iff.1 (by omega)
    subst this
    have h : Lib.index [] [c] = -1 := rfl
    rw [Lib.count_miss h]
    rfl
  | succ n ih =>
    intro l hl
    have hge := Lib.index_ge l [c]
    by_cases h : Lib.index l [c] = -1
    · rw [Lib.count_miss h]
      rw [Lib.index_one] at h
      have hno := Lib.indexByte_none h
      rw [words_none (fun hm => by
        obtain ⟨k, hk⟩ := List.getElem?_of_mem hm
        exact hno k hk)]
      rfl
    · obtain ⟨i, hi⟩ : ∃ i : Nat, Lib.index l [c] = (i : Int) := ⟨(Lib.index l [c]).toNat, by omega⟩
      rw [Lib.count_hit (by simp) hi, Nat.add_comm, Lib.splitK]
      rw [if_neg (by rw [beq_iff_eq]; exact h), hi]
      have hi' := hi
      rw [Lib.index_one] at hi'
      obtain ⟨h1, h2⟩ := Lib.indexByte_some hi'
      have hlt : i < l.length := by
        rcases Nat.lt_or_ge i l.length with h | h
        · exact h
        · rw [List.getElem?_eq_none h] at h1; cases h1
      have hd : l.drop i = c :: l.drop (i + 1) := by
        rw [List.drop_eq_getElem_cons hlt]
        rw [List.getElem?_eq_getElem hlt] at h1
        injection h1 with h1
        rw [h1]
      have e : l = l.take i ++ c :: l.drop (i + 1) := by rw [← hd, List.take_append_drop]
      have hno : c ∉ l.take i := fun hm => by
        obtain ⟨k, hk⟩ := List.getElem?_of_mem hm
        have hki : k < i := by
          rcases Nat.lt_or_ge k i with h | h
          · exact h
          · rw [List.getElem?_take, if_neg (by omega)] at hk; cases hk
        rw [List.getElem?_take, if_pos hki] at hk
        exact h2 k hki hk
      have hw : words c l = l.take i :: words c (l.drop (i + 1)) := by
        conv => lhs; rw [e]
        exact words_hit _ hno
      rw [hw]
      simp only [Int.toNat_natCast, Nat.add_zero, List.length_singleton]
      rw [ih (l.drop (i + 1)) (by rw [List.length_drop]; omega)]
theorem splitB_words (c : UInt8) (l : List UInt8) : Lib.splitB (mkB [c]) 0 (Lib.countB (mkB l) (mkB [c])) (mkB l) = (words c l).map mkB := by
  have h := Lib.splitB_data (mkB [c]) 0 (Lib.countB (mkB l) (mkB [c])) (mkB l)
  rw [mkB_data, mkB_data] at h
  have hc : Lib.countB (mkB l) (mkB [c]) = Lib.count l [c] := by
    show Lib.count (mkB l).data.toList (mkB [c]).data.toList = _
    rw [mkB_data, mkB_data]
  rw [hc, splitK_words c l.length l (Nat.le_refl _)] at h
  rw [hc, ← h, List.map_map]
  have : (mkB ∘ fun x : ByteArray => x.data.toList) = id := by funext x; exact mkB_of x
  rw [this, List.map_id]
theorem eq_mkB {x : ByteArray} {l : List UInt8} (h : x.data.toList = l) : x = mkB l := by rw [← h, mkB_of]
theorem mkB_extract (l : List UInt8) (a b : Nat) : (mkB l).extract a b = mkB ((l.drop a).take (b - a)) := by
  apply eq_mkB
  rw [Lib.extract_data, mkB_data]
theorem bt_mk (l : List UInt8) (i : Nat) (h : i < l.length) : bt (mkB l) (i : Int) = ((l[i]).toNat : Int) := by
  unfold bt
  rw [dif_pos (by rw [mkB_size]; omega)]
  rfl
theorem words_len (c : UInt8) (l : List UInt8) : (words c l).length ≤ l.length + 1 := by
  induction l with
  | nil => simp [words]
  | cons b l ih =>
    unfold words
    split
    · simp; omega
    · have := words_ne c l
      cases h : words c l with
      | nil => exact absurd h this
      | cons w ws => rw [h] at ih; simp [glue] at ih ⊢; omega
end Go.Proofs.YtcblnnfodpglaaaGreatDoor.PuWordsNotched
-- a text of this session, cut down for this claim
namespace Go.Proofs.YtcblnnfodpglaaaGreatDoor.PuNumNotched
open Go.RowKit Go.Proofs.YtcblnnfodpglaaaGreatDoor.MNotched Go.Proofs.YtcblnnfodpglaaaGreatDoorW.PrintWords Go.Proofs.YtcblnnfodpglaaaGreatDoorW.PrintLast Go.Proofs.YtcblnnfodpglaaaGreatDoor.Evs Go.Proofs.YtcblnnfodpglaaaGreatDoor.PuBytNotched Go.Proofs.YtcblnnfodpglaaaGreatDoor.PuWordsNotched
set_option linter.unusedVariables false
set_option linter.unusedSimpArgs false
def isD (b : UInt8) : Bool := decide (48 ≤ b.toNat ∧ b.toNat ≤ 57)
def digs (w : List UInt8) : Bool := w.all isD
theorem not_digs (b : UInt8) (w : List UInt8) (h : ¬ (48 ≤ b.toNat ∧ b.toNat ≤ 57)) : ¬ digs (b :: w) = true := by
  intro e
  simp only [digs, List.all_cons, Bool.and_eq_true] at e
  exact h (of_decide_eq_true (show decide (48 ≤ b.toNat ∧ b.toNat ≤ 57) = true from e.1))
def valF (n : Nat) (w : List UInt8) : Nat := w.foldl (fun n b => 10 * n + (b.toNat - 48)) n
theorem valF_append (n : Nat) (a b : List UInt8) : valF n (a ++ b) = valF (valF n a) b := by simp [valF]
theorem valF_lt : ∀ (w : List UInt8) (n m : Nat), n < 10 ^ m → digs w = true → valF n w < 10 ^ (m + w.length)
  | [], n, m, h, _ => by simpa [valF] using h
  | b :: w, n, m, h, hd => by
    simp only [digs, List.all_cons, Bool.and_eq_true] at hd
    have hb : 48 ≤ b.toNat ∧ b.toNat ≤ 57 := by simpa [isD] using hd.1
    show valF (10 * n + (b.toNat - 48)) w < _
    have h1 : 10 * n + (b.toNat - 48) < 10 ^ (m + 1) := by rw [Nat.pow_succ]; omega
    have := valF_lt w _ _ h1 hd.2
    rw [List.length_cons, show m + (w.length + 1) = m + 1 + w.length by omega]
    exact this
def numOf (m : Nat) (w : List UInt8) : Int × Bool :=
  if w = [] ∨ m < w.length ∨ (w.head? = some 48 ∧ 1 < w.length) then (0, false) else if digs w = true then ((valF 0 w : Nat), true) else (0, false)
def tailN (n : Nat) (w : List UInt8) : Int × Bool := if digs w = true then ((valF n w : Nat), true) else (0, false)
theorem digit_step (b : UInt8) (h : 48 ≤ b.toNat ∧ b.toNat ≤ 57) : (((b.toNat : Int) - 48) % 256) = ((b.toNat - 48 : Nat) : Int) := by omega
theorem loopI (w : List UInt8) (hw : w.length ≤ 10) : Ev (fun k => impl_number.l0 k (mkB w) 0 (w.length : Int) 0) (tailN 0 w) := by
  have key := ev_forI (σ := Nat) (n := w.length) (G := fun k s i => impl_number.l0 k (mkB w) (s : Int) (w.length : Int) i) (F := fun s i => tailN s (w.drop i)) (I := fun s i => s < 10 ^ i) ?_ ?_ 0 (by omega) 0 (by decide)
  · exact key
  · intro i hi ih s hs
    have hp : 10 ^ i ≤ 10 ^ 9 := Nat.pow_le_pow_right (by omega) (by omega)
    refine Ev.step (fun k => by simp only [impl_number.l0]; rfl) ?_
    refine ev_pos (by omega) (ev_pos (by omega) (ev_pos (by rw [mkB_size]; omega) ?_))
    rw [bt_mk w i hi, List.drop_eq_getElem_cons hi]
    by_cases h1 : (w[i]).toNat < 48
    · refine ev_pos (by omega) ?_
      have : tailN s (w[i] :: w.drop (i + 1)) = (0, false) := by
        unfold tailN
        rw [if_neg (not_digs _ _ (by omega))]
      rw [this]; exact Ev.now _
    refine ev_neg (by omega) ?_
    by_cases h2 : 57 < (w[i]).toNat
    · refine ev_pos (by omega) ?_
      have : tailN s (w[i] :: w.drop (i + 1)) = (0, false) := by
        unfold tailN
        rw [if_neg (not_digs _ _ (by omega))]
      rw [this]; exact Ev.now _
    refine ev_neg (by omega) ?_
    have hb : 48 ≤ (w[i]).toNat ∧ (w[i]).toNat ≤ 57 := by omega
    rw [digit_step _ hb, wrap_id (x := (s : Int) * 10) (by omega) (by omega), wrap_id (by omega) (by omega), wrap_up hi (by omega)]
    have := ih (10 * s + ((w[i]).toNat - 48)) (by rw [Nat.pow_succ]; omega)
    rw [show (((10 * s + ((w[i]).toNat - 48) : Nat)) : Int) = (s : Int) * 10 + (((w[i]).toNat - 48 : Nat) : Int) by omega] at this
    refine ev_eq this ?_
    unfold tailN
    have e : digs (w[i] :: w.drop (i + 1)) = digs (w.drop (i + 1)) := by
      unfold digs; rw [List.all_cons]; simp [isD, hb]
    rw [e]; rfl
  · intro s hs
    refine Ev.step (fun k => by simp only [impl_number.l0]; rfl) ?_
    refine ev_neg (by omega) ?_
    rw [List.drop_length]
    exact Ev.now _
theorem bt0 (b : UInt8) (w : List UInt8) : bt (mkB (b :: w)) 0 = (b.toNat : Int) := bt_mk (b :: w) 0 (by simp)
theorem numI_ev (w : List UInt8) : Ev (fun k => impl_number.f k (mkB w)) (numOf 9 w) := by
  unfold impl_number.f
  rw [mkB_toList, mkB_size]
  cases w with
  | nil =>
    refine ev_pos rfl (Ev.step (fun k => by simp only [impl_number.j0]; rfl) (ev_pos (c := (true = true)) rfl ?_))
    exact Ev.now _
  | cons b w =>
    refine ev_neg (by simp) ?_
    by_cases h1 : (9 : Int) < ((b :: w).length : Int)
    · refine ev_pos h1 (Ev.step (fun k => by simp only [impl_number.j0]; rfl) (ev_pos (c := (true = true)) rfl ?_))
      have : numOf 9 (b :: w) = (0, false) := by unfold numOf; rw [if_pos (.inr (.inl (by omega)))]
      rw [this]; exact Ev.now _
    refine ev_neg h1 (ev_pos (by rw [List.length_cons]; omega) ?_)
    rw [bt0]
    by_cases h2 : b = 48 ∧ 1 < (b :: w).length
    · refine ev_pos (by rw [h2.1]; rfl) (Ev.step (fun k => by simp only [impl_number.j0]; rfl) (ev_pos (decide_eq_true (by have := h2.2; omega)) ?_))
      have : numOf 9 (b :: w) = (0, false) := by unfold numOf; rw [if_pos (.inr (.inr ⟨by rw [h2.1]; rfl, h2.2⟩))]
      rw [this]; exact Ev.now _
    have e : numOf 9 (b :: w) = tailN 0 (b :: w) := by
      unfold numOf tailN
      rw [if_neg]
      rintro (h | h | ⟨h, h'⟩)
      · simp at h
      · omega
      · exact h2 ⟨by simpa using h, h'⟩
    rw [e]
    have hl := loopI (b :: w) (by omega)
    rw [show (((b :: w).length : Nat) : Int) = ((mkB (b :: w)).size : Int) by rw [mkB_size]] at hl
    have hs : ((b :: w).length : Int) = ((mkB (b :: w)).size : Int) := by rw [mkB_size]
    by_cases h3 : (b.toNat : Int) = 48
    · have hb : b = 48 := UInt8.toNat_inj.1 (by have h48 : (48 : UInt8).toNat = 48 := rfl; omega)
      have : ¬ 1 < (b :: w).length := fun h => h2 ⟨hb, h⟩
      refine ev_pos h3 (Ev.step (fun k => by simp only [impl_number.j0]; rfl) (ev_neg (fun e => this (by have := of_decide_eq_true e; omega)) hl))
    · exact ev_neg h3 (Ev.step (fun k => by simp only [impl_number.j0]; rfl) (ev_neg (by simp) hl))
theorem dig_byte (n : Nat) : (UInt8.ofNat (48 + n % 10)).toNat = 48 + n % 10 := by
  rw [UInt8.toNat_ofNat']; omega
theorem dec_digs : ∀ n : Nat, digs (Lib.decDigits n) = true := by
  intro n
  induction n using Nat.strongRecOn with
  | ind n ih =>
    by_cases h : n < 10
    · rw [dec_small h, show n = n % 10 by omega]
      simp only [digs, List.all_cons, List.all_nil, Bool.and_true, isD, dig_byte]
      simp; omega
    · rw [dec_big h]
      have := ih (n / 10) (by omega)
      simp only [digs, List.all_append, Bool.and_eq_true] at this ⊢
      refine ⟨this, ?_⟩
      simp only [List.all_cons, List.all_nil, Bool.and_true, isD, dig_byte]
      simp; omega
theorem dec_val : ∀ n : Nat, valF 0 (Lib.decDigits n) = n := by
  intro n
  induction n using Nat.strongRecOn with
  | ind n ih =>
    by_cases h : n < 10
    · rw [dec_small h]
      show 10 * 0 + ((UInt8.ofNat (48 + n)).toNat - 48) = n
      have := dig_byte n
      rw [show n % 10 = n by omega] at this
      rw [this]; omega
    · rw [dec_big h, valF_append, ih (n / 10) (by omega)]
      show 10 * (n / 10) + ((UInt8.ofNat (48 + n % 10)).toNat - 48) = n
      rw [dig_byte]; omega
theorem dec_head : ∀ n : Nat, 1 ≤ n → (Lib.decDigits n).head? ≠ some 48 := by
  intro n
  induction n using Nat.strongRecOn with
  | ind n ih =>
    intro h1
    by_cases h : n < 10
    · rw [dec_small h]
      intro e
      simp only [List.head?_cons, Option.some.injEq] at e
      have := dig_byte n
      rw [show n % 10 = n by omega, e] at this
      have h48 : (48 : UInt8).toNat = 48 := rfl
      omega
    · rw [dec_big h]
      have := ih (n / 10) (by omega) (by omega)
      cases hd : Lib.decDigits (n / 10) with
      | nil => exact absurd hd (dec_ne _)
      | cons b l => rw [hd] at this; simpa using this
theorem num_dec (m : Nat) (n : Nat) (h : (Lib.decDigits n).length ≤ m) : numOf m (Lib.decDigits n) = ((n : Int), true) := by
  unfold numOf
  rw [if_neg, if_pos (dec_digs n), dec_val]
  rintro (h1 | h1 | ⟨h1, h2⟩)
  · exact dec_ne n h1
  · omega
  · by_cases h0 : n = 0
    · subst h0
      rw [dec_small (by omega)] at h2
      simp at h2
    · exact dec_head n (by omega) h1
theorem num_bound (m : Nat) (w : List UInt8) : 0 ≤ (numOf m w).1 ∧ (numOf m w).1 < 10 ^ m := by
  unfold numOf
  split
  · exact ⟨by simp, by simp; exact Int.pow_pos (by omega)⟩
  · rename_i h
    split
    · rename_i hd
      have := valF_lt w 0 0 (by decide) hd
      simp only [not_or] at h
      have hp : 10 ^ (0 + w.length) ≤ 10 ^ m := Nat.pow_le_pow_right (by omega) (by omega)
      refine ⟨by simp, ?_⟩
      have h3 : valF 0 w < 10 ^ m := by omega
      show ((valF 0 w : Nat) : Int) < _
      exact_mod_cast h3
    · exact ⟨by simp, by simp; exact Int.pow_pos (by omega)⟩
end Go.Proofs.YtcblnnfodpglaaaGreatDoor.PuNumNotched
-- a text of this session, cut down for this claim
namespace Go.Proofs.YtcblnnfodpglaaaGreatDoor.PuBigNotched
open Go.RowKit Go.Proofs.YtcblnnfodpglaaaGreatDoor.MNotched Go.Proofs.YtcblnnfodpglaaaGreatDoorW.PrintWords Go.Proofs.YtcblnnfodpglaaaGreatDoorW.PrintLast Go.Proofs.YtcblnnfodpglaaaGreatDoor.Evs Go.Proofs.YtcblnnfodpglaaaGreatDoor.PuBytNotched Go.Proofs.YtcblnnfodpglaaaGreatDoor.PuWordsNotched Go.Proofs.YtcblnnfodpglaaaGreatDoor.PuNumNotched
set_option linter.unusedVariables false
set_option linter.unusedSimpArgs false
theorem valF_ge : ∀ (w : List UInt8) (n : Nat), n * 10 ^ w.length ≤ valF n w
  | [], n => by simp [valF]
  | b :: w, n => by
    show _ ≤ valF (10 * n + (b.toNat - 48)) w
    have := valF_ge w (10 * n + (b.toNat - 48))
    have h2 : n * 10 ^ (b :: w).length = (10 * n) * 10 ^ w.length := by rw [List.length_cons, Nat.pow_succ]; rw [Nat.mul_comm 10 n, Nat.mul_assoc, Nat.mul_comm 10]
    rw [h2]
    exact Nat.le_trans (Nat.mul_le_mul_right _ (by omega)) this
theorem num_9_10 (w : List UInt8) (h : (numOf 9 w).2 = true) : numOf 10 w = numOf 9 w := by
  unfold numOf at h ⊢
  by_cases h1 : w = [] ∨ 9 < w.length ∨ (w.head? = some 48 ∧ 1 < w.length)
  · rw [if_pos h1] at h; cases h
  · rw [if_neg h1, if_neg]
    rintro (h2 | h2 | h2)
    · exact h1 (.inl h2)
    · exact h1 (.inr (.inl (by omega)))
    · exact h1 (.inr (.inr h2))
theorem num_big (w : List UInt8) (h : (numOf 9 w).2 = false) (h2 : (numOf 10 w).2 = true) : 1000000000 ≤ (numOf 10 w).1 := by
  unfold numOf at h h2 ⊢
  by_cases h1 : w = [] ∨ 10 < w.length ∨ (w.head? = some 48 ∧ 1 < w.length)
  · rw [if_pos h1] at h2; cases h2
  rw [if_neg h1] at h2 ⊢
  by_cases hd : digs w = true
  · rw [if_pos hd]
    by_cases h9 : w = [] ∨ 9 < w.length ∨ (w.head? = some 48 ∧ 1 < w.length)
    · rcases h9 with h9 | h9 | h9
      · exact absurd (.inl h9) h1
      · cases w with
        | nil => simp at h9
        | cons b t =>
          have hb : digs (b :: t) = true := hd
          simp only [digs, List.all_cons, Bool.and_eq_true] at hb
          have hb2 : 48 ≤ b.toNat ∧ b.toNat ≤ 57 := by simpa [isD] using hb.1
          have hne : b.toNat ≠ 48 := fun e => h1 (.inr (.inr ⟨by
            have : b = 48 := UInt8.toNat_inj.1 (by have h48 : (48 : UInt8).toNat = 48 := rfl; omega)
            rw [this]; rfl, by omega⟩))
          have hv := valF_ge t (10 * 0 + (b.toNat - 48))
          have hp : 10 ^ 9 ≤ 10 ^ t.length := Nat.pow_le_pow_right (by omega) (by simp at h9; omega)
          have hm : 1 * 10 ^ t.length ≤ (10 * 0 + (b.toNat - 48)) * 10 ^ t.length := Nat.mul_le_mul_right _ (by omega)
          have : valF 0 (b :: t) = valF (10 * 0 + (b.toNat - 48)) t := rfl
          show (1000000000 : Int) ≤ ((valF 0 (b :: t) : Nat) : Int)
          rw [this]
          omega
      · exact absurd (.inr (.inr h9)) h1
    · rw [if_neg h9, if_pos hd] at h; cases h
  · rw [if_neg hd] at h2; cases h2
end Go.Proofs.YtcblnnfodpglaaaGreatDoor.PuBigNotched
-- a text of this session, cut down for this claim
namespace Go.Proofs.YtcblnnfodpglaaaGreatDoor.PuRdNotched
open Go.RowKit Go.Proofs.YtcblnnfodpglaaaGreatDoor.MNotched Go.Proofs.YtcblnnfodpglaaaGreatDoorW.PrintWords Go.Proofs.YtcblnnfodpglaaaGreatDoorW.PrintLast Go.Proofs.YtcblnnfodpglaaaGreatDoor.Evs Go.Proofs.YtcblnnfodpglaaaGreatDoor.PuBytNotched
theorem rdOf_mk (ws : List (List UInt8)) (i : Nat) (h : i < ws.length) : rdOf ByteArray.empty (ws.map mkB) (i : Int) = mkB (ws[i]) := by
  unfold rdOf
  rw [show ((i : Int)).toNat = i by omega, getD_lt _ _ _ (by simpa using h), List.getElem_map]
end Go.Proofs.YtcblnnfodpglaaaGreatDoor.PuRdNotched
-- a text of this session, cut down for this claim
namespace Go.Proofs.YtcblnnfodpglaaaGreatDoor.PuRHalfNotched
open Go.RowKit Go.Proofs.YtcblnnfodpglaaaGreatDoor.MNotched Go.Proofs.YtcblnnfodpglaaaGreatDoorW.PrintWords Go.Proofs.YtcblnnfodpglaaaGreatDoorW.PrintLast Go.Proofs.YtcblnnfodpglaaaGreatDoor.Evs Go.Proofs.YtcblnnfodpglaaaGreatDoor.PuGrainNotched Go.Proofs.YtcblnnfodpglaaaGreatDoor.PuNotchNotched Go.Proofs.YtcblnnfodpglaaaGreatDoor.PuBytNotched Go.Proofs.YtcblnnfodpglaaaGreatDoor.PuWordsNotched Go.Proofs.YtcblnnfodpglaaaGreatDoor.PuNumNotched Go.Proofs.YtcblnnfodpglaaaGreatDoor.PuBigNotched Go.Proofs.YtcblnnfodpglaaaGreatDoor.PuRdNotched
set_option linter.unusedVariables false
set_option linter.unusedSimpArgs false
def kindOf (b : UInt8) : Option Nat := if b = 100 then some 0 else if b = 115 then some 1 else if b = 108 then some 2 else if b = 118 then some 3 else if b = 99 then some 4 else if b = 109 then some 5 else none
theorem idx6 (b : UInt8) : strings_IndexByte.f (⟨#[100, 115, 108, 118, 99, 109]⟩ : ByteArray) (b.toNat : Int) = some (match kindOf b with | some k => (k : Int) | none => -1) := by
  have e : ((b.toNat : Int)).toNat.toUInt8 = b := by rw [Int.toNat_natCast]; exact UInt8.ofNat_toNat
  unfold strings_IndexByte.f
  rw [if_pos trivial, e]
  congr 1
  show Lib.indexByte [100, 115, 108, 118, 99, 109] b = _
  unfold kindOf
  by_cases h1 : b = 100
  · subst h1; rfl
  by_cases h2 : b = 115
  · subst h2; rfl
  by_cases h3 : b = 108
  · subst h3; rfl
  by_cases h4 : b = 118
  · subst h4; rfl
  by_cases h5 : b = 99
  · subst h5; rfl
  by_cases h6 : b = 109
  · subst h6; rfl
  rw [if_neg h1, if_neg h2, if_neg h3, if_neg h4, if_neg h5, if_neg h6]
  have e1 : ((100 : UInt8) == b) = false := by rw [beq_eq_false_iff_ne]; exact fun h => h1 h.symm
  have e2 : ((115 : UInt8) == b) = false := by rw [beq_eq_false_iff_ne]; exact fun h => h2 h.symm
  have e3 : ((108 : UInt8) == b) = false := by rw [beq_eq_false_iff_ne]; exact fun h => h3 h.symm
  have e4 : ((118 : UInt8) == b) = false := by rw [beq_eq_false_iff_ne]; exact fun h => h4 h.symm
  have e5 : ((99 : UInt8) == b) = false := by rw [beq_eq_false_iff_ne]; exact fun h => h5 h.symm
  have e6 : ((109 : UInt8) == b) = false := by rw [beq_eq_false_iff_ne]; exact fun h => h6 h.symm
  simp [Lib.indexByte, e1, e2, e3, e4, e5, e6]
theorem kindOf_lt {b : UInt8} {k : Nat} (h : kindOf b = some k) : k < 6 := by
  unfold kindOf at h
  repeat' split at h
  all_goals first | (injection h with h; omega) | cases h
def stepI : List UInt8 → Option T
  | [] => none
  | b :: t => match kindOf b with
    | none => none
    | some k => if (numOf 9 t).2 = true ∧ ¬ (numOf 9 t).1 > 200 then some ⟨(k : Int), (numOf 9 t).1⟩ else none
def mn (x : Int) : Int := if x < 1000 then x else 1000
def stepS : List UInt8 → Option T
  | [] => none
  | b :: t => match kindOf b with
    | none => none
    | some k => if (numOf 10 t).2 = true then some ⟨(k : Int), mn (numOf 10 t).1⟩ else none
theorem step_IS (w : List UInt8) : stepI w = stepS w ∨ (stepI w = none ∧ ∃ n, stepS w = some n ∧ ok1 n = false) := by
  cases w with
  | nil => exact .inl rfl
  | cons b t =>
    simp only [stepI, stepS]
    cases hk : kindOf b with
    | none => exact .inl rfl
    | some k =>
      simp only
      have hkl := kindOf_lt hk
      by_cases h10 : (numOf 10 t).2 = true
      · rw [if_pos h10]
        have hb := num_bound 10 t
        have bad : (numOf 10 t).1 > 200 → ok1 (⟨(k : Int), mn (numOf 10 t).1⟩ : T) = false := by
          intro hg
          refine decide_eq_false (fun h => ?_)
          have h2 := h.2.2.2
          unfold en at h2
          have hw := wd_bd (k : Int)
          dsimp only at h2
          unfold mn at h2
          split at h2 <;> omega
        by_cases h9 : (numOf 9 t).2 = true
        · rw [num_9_10 _ h9] at bad ⊢
          by_cases hg : (numOf 9 t).1 > 200
          · rw [if_neg (fun h => h.2 hg)]
            exact .inr ⟨rfl, _, rfl, bad hg⟩
          · rw [if_pos ⟨h9, hg⟩]
            left
            congr 2
            unfold mn
            rw [if_pos (by omega)]
        · rw [if_neg (fun h => h9 h.1)]
          have h9' : (numOf 9 t).2 = false := by simpa using h9
          have := num_big t h9' h10
          exact .inr ⟨rfl, _, rfl, bad (by omega)⟩
      · rw [if_neg h10, if_neg]
        · exact .inl rfl
        · rintro ⟨h9, _⟩
          rw [num_9_10 _ h9] at h10
          exact h10 h9
def goN (step : List UInt8 → Option T) (g : G) : List T → List (List UInt8) → Option (List T)
  | acc, [] => if validH acc g = true then some acc else none
  | acc, w :: ws => match step w with | none => none | some n => goN step g (acc ++ [n]) ws
theorem not_valid {acc : List T} {g : G} (h : ∃ n ∈ acc, ok1 n = false) : ¬ validH acc g = true := by
  rintro hv
  obtain ⟨n, hn, hb⟩ := h
  have := valid_ok1 (validH_N hv) n hn
  rw [this] at hb; cases hb
theorem goN_bad (step : List UInt8 → Option T) (g : G) : ∀ (ws : List (List UInt8)) (acc : List T), (∃ n ∈ acc, ok1 n = false) → goN step g acc ws = none
  | [], acc, h => by
    unfold goN
    rw [if_neg (not_valid h)]
  | w :: ws, acc, h => by
    show (match step w with | none => none | some n => goN step g (acc ++ [n]) ws) = none
    cases step w with
    | none => rfl
    | some n =>
      obtain ⟨m, hm, hb⟩ := h
      exact goN_bad step g ws _ ⟨m, by simp [hm], hb⟩
theorem goN_long (step : List UInt8 → Option T) (g : G) : ∀ (ws : List (List UInt8)) (acc : List T), 60 < acc.length + ws.length → goN step g acc ws = none
  | [], acc, h => by
    unfold goN
    rw [if_neg]
    intro hv
    have := valid_len (validH_N hv)
    simp at h; omega
  | w :: ws, acc, h => by
    show (match step w with | none => none | some n => goN step g (acc ++ [n]) ws) = none
    cases step w with
    | none => rfl
    | some n => exact goN_long step g ws _ (by simp at h ⊢; omega)
theorem goN_IS (g : G) : ∀ (ws : List (List UInt8)) (acc : List T), goN stepI g acc ws = goN stepS g acc ws
  | [], acc => rfl
  | w :: ws, acc => by
    show (match stepI w with | none => none | some n => goN stepI g (acc ++ [n]) ws) = (match stepS w with | none => none | some n => goN stepS g (acc ++ [n]) ws)
    rcases step_IS w with e | ⟨e, n, e2, hb⟩
    · rw [e]
      cases stepS w with
      | none => rfl
      | some n => exact goN_IS g ws _
    · rw [e, e2]
      exact (goN_bad stepS g ws _ ⟨n, by simp, hb⟩).symm
def ans (s : Bool) (g : G) : Option (List T) → Bool × List T × G × Int
  | some l => (s, l, g, 0)
  | none => (false, [], (Vector.replicate 16 0 : Vector Int 16), 5)
def fin (bt : Bool × List T × G × Bool) : Option (Bool × List T × G × Int) := if bt.2.2.2 = true then some (bt.1, bt.2.1, bt.2.2.1, 0) else some (false, [], (Vector.replicate 16 0 : Vector Int 16), 5)
theorem i16_id {x : Int} (h0 : -32768 ≤ x) (h1 : x ≤ 32767) : IntKind.i16.wrap x = x := by
  simp only [IntKind.wrap, IntKind.bits, IntKind.signed]
  simp
  omega
theorem bt00 (b : UInt8) (w : List UInt8) : bt (mkB (b :: w)) 0 = (b.toNat : Int) := bt_mk (b :: w) 0 (by simp)
theorem tailB (b : UInt8) (t : List UInt8) : (mkB (b :: t)).extract 1 (mkB (b :: t)).size = mkB t := by
  rw [mkB_extract, mkB_size]
  congr 1
  rw [List.drop_succ_cons, List.drop_zero]
  exact List.take_of_length_le (by simp)
theorem loopHI (s : Bool) (g : G) (ws : List (List UInt8)) (hn2 : ws.length ≤ 4000000000) :
    Ev (fun k => impl_ReadHalf.l1 k (ws.map mkB) (ws.length : Int) 0 s [] g) (ans s g (goN stepI g [] ws)) := by
  have key := ev_forI (σ := List T) (n := ws.length) (G := fun k x i => impl_ReadHalf.l1 k (ws.map mkB) (ws.length : Int) i s x g) (F := fun x i => ans s g (goN stepI g x (ws.drop i))) (I := fun x i => x.length ≤ i ∧ ∀ n ∈ x, wfT n) ?_ ?_ 0 (by omega) [] ⟨by simp, by simp⟩
  · exact key
  · rintro i hi ih x ⟨hx, hwx⟩
    refine Ev.step (fun k => by simp only [impl_ReadHalf.l1]; rfl) ?_
    refine ev_pos (by omega) (ev_pos (by omega) (ev_pos (by rw [List.length_map]; omega) ?_))
    rw [rdOf_mk ws i hi, List.drop_eq_getElem_cons hi, wrap_up hi (by omega)]
    show Ev _ (ans s g (match stepI ws[i] with | none => none | some n => goN stepI g (x ++ [n]) (ws.drop (i + 1))))
    generalize ws[i] = w
    cases w with
    | nil => exact ev_pos (by rw [mkB_toList]) (Ev.now _)
    | cons b t =>
      refine ev_neg (by rw [mkB_toList]; simp) (ev_pos (by rw [mkB_size, List.length_cons]; omega) ?_)
      rw [bt00]
      refine ev_bind0 (idx6 b) (ev_pos (by rw [mkB_size, List.length_cons]; omega) ?_)
      rw [tailB]
      refine Ev.bind (numI_ev t) ?_
      simp only [stepI]
      cases hk : kindOf b with
      | none => exact ev_pos (by decide) (Ev.now _)
      | some k =>
        have hkl := kindOf_lt hk
        have hb := num_bound 9 t
        simp only
        refine ev_neg (by omega) ?_
        by_cases h9 : (numOf 9 t).2 = true
        · refine ev_pos h9 ?_
          by_cases hg : (numOf 9 t).1 > 200
          · rw [if_neg (fun h => h.2 hg)]
            exact ev_pos hg (Ev.now _)
          · rw [if_pos ⟨h9, hg⟩, i8_id (by omega) (by omega), i16_id (by omega) (by omega)]
            refine ev_neg hg (ev_pos (by omega) ?_)
            refine ih (x ++ [⟨(k : Int), (numOf 9 t).1⟩]) ⟨by simp; omega, ?_⟩
            intro m hm
            rcases List.mem_append.1 hm with hm | hm
            · exact hwx m hm
            · simp only [List.mem_singleton] at hm
              subst hm
              unfold wfT
              dsimp only
              omega
        · rw [if_neg (fun h => h9 h.1)]
          exact ev_neg h9 (Ev.now _)
  · rintro x ⟨hx, hwx⟩
    refine Ev.step (fun k => by simp only [impl_ReadHalf.l1]; rfl) ?_
    refine ev_neg (by omega) ?_
    rw [List.drop_length]
    refine Ev.bind (ValidHalfI_ev s x g (by unfold maxLen; omega) hwx) ?_
    by_cases hv : validH x g = true
    · refine ev_eq (ev_pos hv (Ev.now _)) ?_
      unfold goN; rw [if_pos hv]; rfl
    · refine ev_eq (ev_neg hv (Ev.now _)) ?_
      unfold goN; rw [if_neg hv]; rfl
def gbyte (w : List UInt8) (i : Nat) : Int := ((w.getD i 0).toNat : Int)
def okW (w : List UInt8) (i : Nat) : Bool := decide (97 ≤ gbyte w i ∧ gbyte w i ≤ 103)
def gW (w : List UInt8) : G := Vector.ofFn fun i : Fin 16 => gbyte w i - 100
theorem gv_gW (w : List UInt8) (q : Nat) (h : q < 16) : gv (gW w) q = gbyte w q - 100 := gv_ofFn (fun i => gbyte w i - 100) q h
theorem gset (w : List UInt8) (x : G) (i : Nat) (hi : i < 16) (hx : ∀ q, q < i → gv x q = gv (gW w) q) : ∀ q, q < i + 1 → gv (Arr.vst x (i : Int) (gbyte w i - 100)) q = gv (gW w) q := by
  intro q hq
  rw [gv_set x i q _ hi]
  by_cases h : q = i
  · rw [if_pos h, h, gv_gW w i hi]
  · rw [if_neg h]; exact hx q (by omega)
theorem i8b {x : Int} (h : 97 ≤ x ∧ x ≤ 103) : IntKind.i8.wrap (IntKind.i8.wrap x - 100) = x - 100 := by
  rw [i8_id (x := x) (by omega) (by omega), i8_id (by omega) (by omega)]
theorem btw (w : List UInt8) (i : Nat) (h : i < w.length) : bt (mkB w) (i : Int) = gbyte w i := by
  rw [bt_mk w i h]
  unfold gbyte
  rw [getD_lt _ _ _ h]
def headOk (ws : List (List UInt8)) : Bool := decide (2 ≤ ws.length ∧ (ws.getD 0 [] = [115, 116, 111, 99, 107] ∨ ws.getD 0 [] = [102, 111, 105, 108]) ∧ (ws.getD 1 []).length = 16)
def readHW (ws : List (List UInt8)) : Bool × List T × G × Int :=
  if headOk ws = true ∧ allFrom (okW (ws.getD 1 [])) 0 = true then ans (decide (ws.getD 0 [] = [115, 116, 111, 99, 107])) (gW (ws.getD 1 [])) (goN stepS (gW (ws.getD 1 [])) [] (ws.drop 2)) else (false, [], (Vector.replicate 16 0 : Vector Int 16), 5)
theorem loopGI (s : Bool) (ws : List (List UInt8)) (hn : 2 ≤ ws.length) (hn2 : ws.length ≤ 4000000000) (h16 : (ws.getD 1 []).length = 16) :
    Ev (fun k => impl_ReadHalf.l0 k (ws.map mkB) 0 s (Vector.replicate 16 0 : Vector Int 16))
      (if allFrom (okW (ws.getD 1 [])) 0 = true then ans s (gW (ws.getD 1 [])) (goN stepI (gW (ws.getD 1 [])) [] (ws.drop 2)) else (false, [], (Vector.replicate 16 0 : Vector Int 16), 5)) := by
  have h1 : rdOf ByteArray.empty (ws.map mkB) 1 = mkB (ws.getD 1 []) := by
    have := rdOf_mk ws 1 (by omega)
    rw [getD_lt _ _ _ (by omega : 1 < ws.length)]
    exact this
  generalize ws.getD 1 [] = w at h16 h1 ⊢
  have key := ev_forI (σ := G) (n := 16) (G := fun k x i => impl_ReadHalf.l0 k (ws.map mkB) i s x) (F := fun x i => if allFrom (okW w) i = true then ans s (gW w) (goN stepI (gW w) [] (ws.drop 2)) else (false, [], (Vector.replicate 16 0 : Vector Int 16), 5)) (I := fun x i => ∀ q, q < i → gv x q = gv (gW w) q) ?_ ?_ 0 (by omega) (Vector.replicate 16 0 : Vector Int 16) (fun q hq => by omega)
  · exact key
  · intro i hi ih x hx
    refine Ev.step (fun k => by simp only [impl_ReadHalf.l0]; rfl) ?_
    refine ev_pos (by omega) (ev_pos (by rw [List.length_map]; omega) (ev_pos (by omega) (ev_pos (by rw [h1, mkB_size]; omega) ?_)))
    rw [h1, btw w i (by omega), wrap_up hi (by omega), allFrom_step _ _ hi]
    by_cases ha : gbyte w i < 97
    · have : okW w i = false := decide_eq_false (by omega)
      rw [this]
      exact ev_pos ha (Ev.now _)
    refine ev_neg ha ?_
    by_cases hb : gbyte w i > 103
    · have : okW w i = false := decide_eq_false (by omega)
      rw [this]
      exact ev_pos hb (Ev.now _)
    refine ev_neg hb ?_
    have : okW w i = true := decide_eq_true (by omega)
    rw [this, Bool.true_and, i8b (by omega)]
    exact ih _ (gset w x i hi hx)
  · intro x hx
    refine Ev.step (fun k => by simp only [impl_ReadHalf.l0]; rfl) ?_
    refine ev_neg (by omega) (ev_pos (by rw [List.length_map]; omega) ?_)
    rw [allFrom_end, if_pos rfl, gv_ext x (gW w) hx, ← List.map_drop]
    refine ev_bind0 rfl ?_
    rw [List.length_map]
    exact loopHI s (gW w) (ws.drop 2) (by rw [List.length_drop]; omega)
theorem headS (ws : List (List UInt8)) (i : Nat) (h : i < ws.length) : rdOf ByteArray.empty (ws.map mkB) (i : Int) = mkB (ws.getD i []) := by
  rw [rdOf_mk ws i h, getD_lt _ _ _ h]
theorem ReadI_ev (l : List UInt8) (hl : l.length ≤ 1000000000) : Ev (fun k => impl_ReadHalf.f k (mkB l)) (readHW (words 32 l)) := by
  unfold impl_ReadHalf.f
  have hn := words_len 32 l
  have hs : strings_Split.f (mkB l) (⟨#[32]⟩ : ByteArray) = some ((words 32 l).map mkB) := by
    unfold strings_Split.f
    rw [if_pos ⟨by rw [mkB_size]; omega, by decide⟩]
    congr 1
    exact splitB_words 32 l
  refine ev_bind0 hs ?_
  generalize words 32 l = ws at hn ⊢
  have stop : Ev (fun k => impl_ReadHalf.j0 k (ws.map mkB) true) (false, ([] : List T), (Vector.replicate 16 0 : Vector Int 16), (5 : Int)) := by
    exact Ev.step (fun k => rfl) (Ev.now _)
  have no : headOk ws = false → readHW ws = (false, ([] : List T), (Vector.replicate 16 0 : Vector Int 16), (5 : Int)) := by
    intro h; unfold readHW; rw [if_neg]; rintro ⟨h', _⟩; rw [h] at h'; cases h'
  by_cases h2 : (ws.length : Int) < 2
  · rw [no (decide_eq_false (by omega))]
    exact ev_pos (by rw [List.length_map]; exact h2) stop
  refine ev_neg (by rw [List.length_map]; exact h2) ?_
  by_cases h62 : (ws.length : Int) > 62
  · refine ev_eq (ev_pos (by rw [List.length_map]; exact h62) stop) ?_
    unfold readHW
    by_cases hc : headOk ws = true ∧ allFrom (okW (ws.getD 1 [])) 0 = true
    · rw [if_pos hc, goN_long _ _ _ _ (by rw [List.length_drop]; simp; omega)]; rfl
    · rw [if_neg hc]
  refine ev_neg (by rw [List.length_map]; exact h62) (ev_pos (by rw [List.length_map]; omega) ?_)
  have r0 : rdOf ByteArray.empty (ws.map mkB) 0 = mkB (ws.getD 0 []) := headS ws 0 (by omega)
  have r1 : rdOf ByteArray.empty (ws.map mkB) 1 = mkB (ws.getD 1 []) := headS ws 1 (by omega)
  rw [r0, r1, mkB_toList, mkB_size]
  have go : (ws.getD 0 [] = [115, 116, 111, 99, 107] ∨ ws.getD 0 [] = [102, 111, 105, 108]) → Ev (fun k => impl_ReadHalf.j0 k (ws.map mkB) ((((ws.getD 1 []).length : Nat) : Int) != 16)) (readHW ws) := by
    intro hh
    by_cases h16 : (ws.getD 1 []).length = 16
    · rw [h16, show ((((16 : Nat) : Int)) != 16) = false from rfl]
      refine Ev.step (fun k => by simp only [impl_ReadHalf.j0]; rfl) ?_
      refine ev_neg (by decide) (ev_pos (by rw [List.length_map]; omega) ?_)
      rw [r0, mkB_toList]
      have := loopGI (decide (ws.getD 0 [] = [115, 116, 111, 99, 107])) ws (by omega) (by omega) h16
      have eb : (ws.getD 0 [] == ([115, 116, 111, 99, 107] : List UInt8)) = decide (ws.getD 0 [] = [115, 116, 111, 99, 107]) := by
        by_cases h : ws.getD 0 [] = [115, 116, 111, 99, 107]
        · rw [decide_eq_true h]; simpa using h
        · rw [decide_eq_false h]; simpa using h
      rw [eb]
      refine ev_eq this ?_
      unfold readHW
      have hO : headOk ws = true := decide_eq_true ⟨by omega, hh, h16⟩
      by_cases ha : allFrom (okW (ws.getD 1 [])) 0 = true
      · rw [if_pos ha, if_pos ⟨hO, ha⟩, goN_IS]
      · rw [if_neg ha, if_neg (fun h => ha h.2)]
    · rw [no (decide_eq_false (fun h => h16 h.2.2)), show ((((ws.getD 1 []).length : Nat) : Int) != 16) = true by rw [bne_iff_ne]; omega]
      exact stop
  by_cases ha : ws.getD 0 [] = [115, 116, 111, 99, 107]
  · exact ev_pos ha (ev_pos (by rw [List.length_map]; omega) (go (.inl ha)))
  refine ev_neg ha ?_
  by_cases hb : ws.getD 0 [] = [102, 111, 105, 108]
  · exact ev_pos hb (ev_pos (by rw [List.length_map]; omega) (go (.inr hb)))
  · rw [no (decide_eq_false (fun h => by rcases h.2.1 with h | h; exact ha h; exact hb h))]
    exact ev_neg hb stop
end Go.Proofs.YtcblnnfodpglaaaGreatDoor.PuRHalfNotched
-- a text of this session, cut down for this claim
namespace Go.Proofs.YtcblnnfodpglaaaGreatDoor.PuHTextNotched
open Go.RowKit Go.Proofs.YtcblnnfodpglaaaGreatDoor.MNotched Go.Proofs.YtcblnnfodpglaaaGreatDoorW.PrintWords Go.Proofs.YtcblnnfodpglaaaGreatDoorW.PrintLast Go.Proofs.YtcblnnfodpglaaaGreatDoor.Evs Go.Proofs.YtcblnnfodpglaaaGreatDoor.PuGrainNotched Go.Proofs.YtcblnnfodpglaaaGreatDoor.PuNotchNotched Go.Proofs.YtcblnnfodpglaaaGreatDoor.PuBytNotched
set_option linter.unusedVariables false
set_option linter.unusedSimpArgs false
def letter (k : Int) : UInt8 := ([100, 115, 108, 118, 99, 109] : List UInt8).getD k.toNat 0
def bytesOf (l : List Int) : List UInt8 := l.map fun z => UInt8.ofNat z.toNat
theorem strOf (l : List Int) : strOfNums l = mkB (bytesOf l) := rfl
def gnums (g : G) (i : Nat) : List Int := (List.range' i (16 - i)).map fun q => 100 + gv g q
def side (s : Bool) : List UInt8 := if s = true then [115, 116, 111, 99, 107] else [102, 111, 105, 108]
def notchW (n : T) : List UInt8 := letter n.f0 :: Lib.decDigits n.f1.toNat
def tailT (l : List T) : List UInt8 := (l.map fun n => 32 :: notchW n).flatten
def htext (s : Bool) (l : List T) (g : G) : List UInt8 := side s ++ 32 :: (bytesOf (gnums g 0) ++ tailT l)
theorem gnums_step (g : G) (i : Nat) (h : i < 16) : gnums g i = (100 + gv g i) :: gnums g (i + 1) := by
  unfold gnums
  rw [show 16 - i = (16 - (i + 1)) + 1 by omega, List.range'_succ]; rfl
theorem gnums_end (g : G) : gnums g 16 = [] := rfl
theorem gnums_len (g : G) (i : Nat) : (gnums g i).length = 16 - i := by simp [gnums]
theorem letter_ex (k : Int) (h0 : 0 ≤ k) (h1 : k ≤ 5) : (⟨#[100, 115, 108, 118, 99, 109]⟩ : ByteArray).extract k.toNat (k + 1).toNat = mkB [letter k] := by
  obtain ⟨n, rfl⟩ : ∃ n : Nat, k = (n : Int) := ⟨k.toNat, by omega⟩
  have hn : n < 6 := by omega
  rw [show ((n : Int)).toNat = n by omega, show ((n : Int) + 1).toNat = n + 1 by omega]
  have : ∀ m, m < 6 → (⟨#[100, 115, 108, 118, 99, 109]⟩ : ByteArray).extract m (m + 1) = mkB [letter (m : Int)] := by decide
  exact this n hn
theorem i8up (k : Int) (h0 : 0 ≤ k) (h1 : k ≤ 5) : IntKind.i8.wrap (k + 1) = k + 1 := i8_id (by omega) (by omega)
theorem notchW_len (n : T) (h : ok1 n = true) : (notchW n).length ≤ 4 := by
  have h1 := of_decide_eq_true h
  have hw := wd_bd n.f0
  have := dec_len 2 n.f1.toNat (by unfold en at h1; omega)
  unfold notchW
  simp; omega
theorem joinW (a b : List UInt8) (l : List T) : Lib.join (a :: b :: l.map notchW) [32] = a ++ 32 :: (b ++ tailT l) := by
  rw [Lib.join_cons]
  simp only [Lib.joinTail, List.map_cons, List.flatten_cons, List.append_assoc, List.map_map, tailT]
  rfl
theorem tail_len : ∀ (l : List T), (∀ n ∈ l, ok1 n = true) → (tailT l).length ≤ 5 * l.length
  | [], _ => by simp [tailT]
  | n :: l, h => by
    have h1 := notchW_len n (h n (by simp))
    have h2 := tail_len l (fun m hm => h m (by simp [hm]))
    have e : tailT (n :: l) = (32 :: notchW n) ++ tailT l := rfl
    rw [e, List.length_append, List.length_cons, List.length_cons]
    omega
theorem loopN (a b : List UInt8) (l : List T) (ha : a.length ≤ 100) (hb : b.length ≤ 100) (hv : validN l = true) (hw : ∀ n ∈ l, wfT n) :
    Ev (fun k => impl_halfText.l1 k [mkB a, mkB b] l (l.length : Int) 0) (mkB (a ++ 32 :: (b ++ tailT l))) := by
  have h1 := valid_ok1 hv
  have h60 := valid_len hv
  have key := ev_forI (σ := List (List UInt8)) (n := l.length) (G := fun k s i => impl_halfText.l1 k (s.map mkB) l (l.length : Int) i) (F := fun s i => mkB (Lib.join (s ++ (l.drop i).map notchW) [32])) (I := fun s i => s = a :: b :: (l.take i).map notchW) ?_ ?_ 0 (by omega) [a, b] (by simp)
  · rw [← joinW]
    exact key
  · rintro i hi ih s rfl
    have hk := h1 l[i] (List.getElem_mem hi)
    have hok := of_decide_eq_true hk
    have hwb := wd_bd l[i].f0
    have hwf := hw l[i] (List.getElem_mem hi)
    refine Ev.step (fun k => by simp only [impl_halfText.l1]; rfl) ?_
    refine ev_pos (by omega) (ev_pos (by omega) (ev_pos (by omega) ?_))
    rw [rdT l i hi, i8up _ hok.1 hok.2.1, wrap_i16 hwf, letter_ex _ hok.1 hok.2.1, wrap_up hi (by omega)]
    refine ev_pos (by omega) (ev_pos (by omega) (ev_pos (by omega) ?_))
    refine ev_bind0 (decimal_eq _ (by omega) (by unfold en at hok; omega)) ?_
    have hl := notchW_len _ hk
    unfold notchW at hl
    simp only [List.length_cons] at hl
    refine ev_pos (by unfold decB; rw [mkB_size, mkB_size]; simp; omega) (ev_pos (by simp; omega) ?_)
    have := ih (a :: b :: (l.take (i + 1)).map notchW) rfl
    have e : (a :: b :: (l.take (i + 1)).map notchW).map mkB = (a :: b :: (l.take i).map notchW).map mkB ++ [mkB [letter l[i].f0] ++ decB l[i].f1.toNat] := by
      unfold decB
      rw [mkB_append, List.take_succ_eq_append_getElem hi]
      simp only [notchW, List.map_cons, List.map_append, List.map_nil, List.cons_append, List.nil_append]
    rw [e] at this
    refine ev_eq this ?_
    rw [List.take_succ_eq_append_getElem hi, List.drop_eq_getElem_cons hi]
    simp only [List.map_cons, List.map_append, List.map_nil, List.cons_append, List.nil_append, List.append_assoc]
  · rintro s rfl
    refine Ev.step (fun k => by simp only [impl_halfText.l1]; rfl) ?_
    refine ev_neg (by omega) ?_
    have hj : strings_Join.f ((a :: b :: (l.take l.length).map notchW).map mkB) (⟨#[32]⟩ : ByteArray) = some (mkB (Lib.join (a :: b :: l.map notchW) [32])) := by
      unfold strings_Join.f
      have em : ((a :: b :: (l.take l.length).map notchW).map mkB).map (fun z : ByteArray => z.data.toList) = a :: b :: l.map notchW := by
        rw [List.take_length, List.map_map]
        have : ((fun z : ByteArray => z.data.toList) ∘ mkB) = id := by funext x; exact mkB_data x
        rw [this, List.map_id]
      rw [em, show (⟨#[32]⟩ : ByteArray).data.toList = [32] from rfl]
      have ht := tail_len l h1
      rw [if_pos ⟨by simp; omega, by rw [joinW]; simp; omega⟩]
      rfl
    refine ev_bind0 hj ?_
    rw [List.take_length, List.drop_length, List.map_nil, List.append_nil]
    exact Ev.now _
theorem num100 {g : G} (hg : okG g = true) {i : Nat} (hi : i < 16) : (IntKind.i8.wrap (100 + gv g i)) % 256 = 100 + gv g i := by
  have h := (okG_iff g).1 hg i hi
  rw [i8_id (by omega) (by omega)]
  omega
theorem textHI_ev (s : Bool) (l : List T) (g : G) (hv : validH l g = true) (hw : ∀ n ∈ l, wfT n) : Ev (fun k => impl_halfText.f k s l g) (mkB (htext s l g)) := by
  have hN := validH_N hv
  have hg : okG g = true := by unfold validH at hv; simp only [Bool.and_eq_true] at hv; exact hv.2
  have main : ∀ a : List UInt8, a.length ≤ 100 → Ev (fun k => impl_halfText.j0 k (mkB a) s l g) (mkB (a ++ 32 :: (bytesOf (gnums g 0) ++ tailT l))) := by
    intro a ha
    refine Ev.step (fun k => by simp only [impl_halfText.j0]; rfl) ?_
    have key := ev_forI (σ := List Int) (n := 16) (G := fun k x i => impl_halfText.l0 k (mkB a) x i g s l g) (F := fun x i => mkB (a ++ 32 :: (bytesOf (x ++ gnums g i) ++ tailT l))) (I := fun x i => x.length = i) ?_ ?_ 0 (by omega) [] rfl
    · exact key
    · intro i hi ih x hx
      refine Ev.step (fun k => by simp only [impl_halfText.l0]; rfl) ?_
      refine ev_pos (by omega) (ev_pos (by omega) (ev_pos (by omega) ?_))
      rw [vrd_n, num100 hg hi, wrap_up hi (by omega)]
      refine ev_eq (ih _ (by simp [hx])) ?_
      rw [gnums_step g i hi, List.append_assoc]; rfl
    · intro x hx
      refine Ev.step (fun k => by simp only [impl_halfText.l0]; rfl) ?_
      refine ev_neg (by omega) ?_
      rw [gnums_end, List.append_nil, strOf]
      exact loopN a (bytesOf x) l ha (by simp [bytesOf, hx]) hN hw
  unfold impl_halfText.f htext side
  by_cases h : s = true
  · refine ev_pos h ?_
    rw [if_pos h]
    exact main [115, 116, 111, 99, 107] (by decide)
  · refine ev_neg h ?_
    rw [if_neg h]
    exact main [102, 111, 105, 108] (by decide)
def htextR (s : Bool) (l : List T) (g : G) : List UInt8 := if validH l g = true then htext s l g else []
theorem HTextI_ev (s : Bool) (l : List T) (g : G) (hl : l.length ≤ maxLen) (hw : ∀ n ∈ l, wfT n) : Ev (fun k => impl_HalfText.f k s l g) (mkB (htextR s l g)) := by
  unfold impl_HalfText.f htextR
  refine Ev.bind (ValidHalfI_ev s l g hl hw) ?_
  by_cases h : validH l g = true
  · rw [if_pos h]
    exact ev_pos h (Ev.bind (textHI_ev s l g h hw) (Ev.now _))
  · rw [if_neg h]
    exact ev_neg h (Ev.now _)
end Go.Proofs.YtcblnnfodpglaaaGreatDoor.PuHTextNotched
-- a text of this session, cut down for this claim
namespace Go.Proofs.YtcblnnfodpglaaaGreatDoor.PuHTripNotched
open Go.RowKit Go.Proofs.YtcblnnfodpglaaaGreatDoor.MNotched Go.Proofs.YtcblnnfodpglaaaGreatDoorW.PrintWords Go.Proofs.YtcblnnfodpglaaaGreatDoorW.PrintLast Go.Proofs.YtcblnnfodpglaaaGreatDoor.Evs Go.Proofs.YtcblnnfodpglaaaGreatDoor.PuGrainNotched Go.Proofs.YtcblnnfodpglaaaGreatDoor.PuNotchNotched Go.Proofs.YtcblnnfodpglaaaGreatDoor.PuBytNotched Go.Proofs.YtcblnnfodpglaaaGreatDoor.PuWordsNotched Go.Proofs.YtcblnnfodpglaaaGreatDoor.PuNumNotched Go.Proofs.YtcblnnfodpglaaaGreatDoor.PuRHalfNotched Go.Proofs.YtcblnnfodpglaaaGreatDoor.PuHTextNotched
set_option linter.unusedVariables false
set_option linter.unusedSimpArgs false
theorem kind_cases {k : Int} (h0 : 0 ≤ k) (h1 : k ≤ 5) : k = 0 ∨ k = 1 ∨ k = 2 ∨ k = 3 ∨ k = 4 ∨ k = 5 := by omega
theorem letter_no {k : Int} (h0 : 0 ≤ k) (h1 : k ≤ 5) : (32 : UInt8) ≠ letter k := by
  rcases kind_cases h0 h1 with rfl | rfl | rfl | rfl | rfl | rfl <;> decide
theorem kind_letter {k : Int} (h0 : 0 ≤ k) (h1 : k ≤ 5) : kindOf (letter k) = some k.toNat := by
  rcases kind_cases h0 h1 with rfl | rfl | rfl | rfl | rfl | rfl <;> decide
theorem dig32 (n : Nat) : (32 : UInt8) ∉ Lib.decDigits n := by
  intro h
  have := dec_digs n
  unfold digs at this
  have h2 := List.all_eq_true.1 this 32 h
  revert h2; decide
theorem notchW_no {n : T} (h : ok1 n = true) : (32 : UInt8) ∉ notchW n := by
  have h1 := of_decide_eq_true h
  unfold notchW
  rw [List.mem_cons, not_or]
  exact ⟨letter_no h1.1 h1.2.1, dig32 _⟩
theorem stepS_notch {n : T} (h : ok1 n = true) : stepS (notchW n) = some n := by
  have h1 := of_decide_eq_true h
  have hw := wd_bd n.f0
  have hen : n.f1 ≤ 200 := by have := h1.2.2.2; unfold en at this; omega
  show (match kindOf (letter n.f0) with
    | none => none
    | some k => if (numOf 10 (Lib.decDigits n.f1.toNat)).2 = true then some (⟨(k : Int), PuRHalfNotched.mn (numOf 10 (Lib.decDigits n.f1.toNat)).1⟩ : T) else none) = some n
  rw [kind_letter h1.1 h1.2.1, num_dec 10 _ (Nat.le_trans (dec_len 2 n.f1.toNat (by omega)) (by omega))]
  dsimp only
  rw [if_pos rfl]
  congr 1
  have e : ((n.f1.toNat : Nat) : Int) = n.f1 := by omega
  have e2 : ((n.f0.toNat : Nat) : Int) = n.f0 := by omega
  rw [e, e2]
  unfold PuRHalfNotched.mn
  rw [if_pos (by omega)]
theorem words_tail : ∀ (l : List T) (a : List UInt8), (32 : UInt8) ∉ a → (∀ n ∈ l, ok1 n = true) → words 32 (a ++ tailT l) = a :: l.map notchW
  | [], a, ha, _ => by
    rw [show tailT ([] : List T) = [] from rfl, List.append_nil, words_none ha]
    rfl
  | n :: l, a, ha, h => by
    rw [show tailT (n :: l) = 32 :: (notchW n ++ tailT l) from rfl, words_hit _ ha, words_tail l (notchW n) (notchW_no (h n (by simp))) (fun z hz => h z (by simp [hz]))]
    rfl
theorem goN_text (g : G) : ∀ (l acc : List T), validH (acc ++ l) g = true → (∀ n ∈ l, ok1 n = true) → goN stepS g acc (l.map notchW) = some (acc ++ l)
  | [], acc, h, _ => by
    rw [List.append_nil] at h ⊢
    show (if validH acc g = true then some acc else none) = _
    rw [if_pos h]
  | n :: l, acc, h, hn => by
    show (match stepS (notchW n) with | none => none | some n => goN stepS g (acc ++ [n]) (l.map notchW)) = _
    rw [stepS_notch (hn n (by simp))]
    show goN stepS g (acc ++ [n]) (l.map notchW) = _
    rw [goN_text g l (acc ++ [n]) (by rw [List.append_assoc]; exact h) (fun z hz => hn z (by simp [hz])), List.append_assoc]
    rfl
theorem gbytes (g : G) (hg : okG g = true) (q : Nat) (hq : q < 16) : gbyte (PuHTextNotched.bytesOf (gnums g 0)) q = 100 + gv g q := by
  have h := (okG_iff g).1 hg q hq
  unfold gbyte PuHTextNotched.bytesOf gnums
  rw [getD_lt _ _ _ (by simpa using hq)]
  simp only [List.getElem_map, List.getElem_range']
  rw [show 0 + 1 * q = q by omega]
  rw [show (UInt8.ofNat (100 + gv g q).toNat).toNat = (100 + gv g q).toNat % 256 from by simp]
  omega
theorem side_no (s : Bool) : (32 : UInt8) ∉ side s := by cases s <;> decide
theorem gbytes_no (g : G) (hg : okG g = true) : (32 : UInt8) ∉ PuHTextNotched.bytesOf (gnums g 0) := by
  intro h
  unfold PuHTextNotched.bytesOf gnums at h
  rw [List.map_map, List.mem_map] at h
  obtain ⟨q, hq, e⟩ := h
  have hq2 : q < 16 := by
    have := List.mem_range'.1 hq
    obtain ⟨i, hi, rfl⟩ := this
    omega
  have hb := (okG_iff g).1 hg q hq2
  have e2 : (UInt8.ofNat (100 + gv g q).toNat).toNat = 32 := by rw [show (UInt8.ofNat (100 + gv g q).toNat) = 32 from e]; rfl
  rw [show (UInt8.ofNat (100 + gv g q).toNat).toNat = (100 + gv g q).toNat % 256 from by simp] at e2
  omega
theorem words_half (s : Bool) (l : List T) (g : G) (hv : validH l g = true) : words 32 (htext s l g) = side s :: PuHTextNotched.bytesOf (gnums g 0) :: l.map notchW := by
  have hg : okG g = true := by unfold validH at hv; exact (Bool.and_eq_true_iff.1 hv).2
  unfold htext
  rw [words_hit _ (side_no s), words_tail l _ (gbytes_no g hg) (valid_ok1 (validH_N hv))]
theorem round_half (s : Bool) (l : List T) (g : G) (hv : validH l g = true) : readHW (words 32 (htext s l g)) = (s, l, g, 0) := by
  have hg : okG g = true := by unfold validH at hv; exact (Bool.and_eq_true_iff.1 hv).2
  rw [words_half s l g hv]
  unfold readHW
  have h1 : headOk (side s :: PuHTextNotched.bytesOf (gnums g 0) :: l.map notchW) = true := by
    unfold headOk
    refine decide_eq_true ⟨by simp, ?_, ?_⟩
    · cases s
      · exact .inr rfl
      · exact .inl rfl
    · show (PuHTextNotched.bytesOf (gnums g 0)).length = 16
      unfold PuHTextNotched.bytesOf
      rw [List.length_map, gnums_len]
  have h2 : allFrom (okW (PuHTextNotched.bytesOf (gnums g 0))) 0 = true := by
    rw [allFrom_iff]
    intro q _ hq
    have hb := (okG_iff g).1 hg q hq
    unfold okW
    rw [gbytes g hg q hq]
    exact decide_eq_true ⟨by omega, by omega⟩
  have h3 : gW (PuHTextNotched.bytesOf (gnums g 0)) = g := by
    refine gv_ext _ _ (fun i hi => ?_)
    rw [gv_gW _ i hi, gbytes g hg i hi]
    omega
  have h4 : decide (side s = [115, 116, 111, 99, 107]) = s := by cases s <;> decide
  rw [if_pos ⟨h1, h2⟩]
  show ans (decide (side s = [115, 116, 111, 99, 107])) (gW (PuHTextNotched.bytesOf (gnums g 0))) (goN stepS (gW (PuHTextNotched.bytesOf (gnums g 0))) [] (l.map notchW)) = _
  rw [h3, h4, goN_text g l [] (by rw [List.nil_append]; exact hv) (valid_ok1 (validH_N hv))]
  rfl
end Go.Proofs.YtcblnnfodpglaaaGreatDoor.PuHTripNotched
-- a text of this session, cut down for this claim
namespace Go.Proofs.YtcblnnfodpglaaaGreatDoor.PuPickBNotched
open Go.RowKit Go.Proofs.YtcblnnfodpglaaaGreatDoor.MNotched Go.Proofs.YtcblnnfodpglaaaGreatDoorW.PrintWords Go.Proofs.YtcblnnfodpglaaaGreatDoorW.PrintLast Go.Proofs.YtcblnnfodpglaaaGreatDoor.Evs
set_option linter.unusedVariables false
set_option linter.unusedSimpArgs false
def byteL (c : List Int) : Prop := c.length ≤ 100000 ∧ ∀ x ∈ c, 0 ≤ x ∧ x ≤ 255
theorem rd_byte {c : List Int} (h : byteL c) (i : Int) : 0 ≤ rd c i ∧ rd c i ≤ 255 := by
  show 0 ≤ c.getD i.toNat 0 ∧ c.getD i.toNat 0 ≤ 255
  by_cases hi : i.toNat < c.length
  · rw [getD_lt c 0 _ hi]; exact h.2 _ (List.getElem_mem hi)
  · rw [List.getD_eq_getElem?_getD, List.getElem?_eq_none (by omega)]; simp
theorem u64w (x : Int) : 0 ≤ IntKind.u64.wrap x ∧ IntKind.u64.wrap x < 18446744073709551616 := by
  have e : IntKind.u64.wrap x = x % 18446744073709551616 := by
    simp [IntKind.wrap, IntKind.bits, IntKind.signed]
  rw [e]; omega
theorem and255 (x : Int) : 0 ≤ wrap64 (Go.bits .and .u64 (IntKind.u64.wrap x / 1099511627776) 255) ∧ wrap64 (Go.bits .and .u64 (IntKind.u64.wrap x / 1099511627776) 255) ≤ 255 := by
  have h := u64w x
  rw [u64_and _ _ (by omega) (by omega) (by omega) (by omega)]
  have h2 : (IntKind.u64.wrap x / 1099511627776).toNat &&& (255 : Int).toNat ≤ (255 : Int).toNat := Nat.and_le_right
  have h3 : ((255 : Int).toNat) = 255 := rfl
  rw [h3] at h2 ⊢
  rw [wrap_id (by omega) (by omega)]
  omega
theorem next_f {c : List Int} (h : byteL c) (i s : Int) (hi : 0 ≤ i) (hi2 : i ≤ 1000000) : ∃ b s2, spec_l00Src_next.f c i s = some (b, i + 1, s2) ∧ 0 ≤ b ∧ b ≤ 255 := by
  have hr := rd_byte h i
  have hw : wrap64 (rd c i) = rd c i := wrap_id (by omega) (by omega)
  have hw2 : wrap64 (i + 1) = i + 1 := wrap_id (by omega) (by omega)
  unfold spec_l00Src_next.f
  rw [hw2]
  by_cases h1 : i < (c.length : Int)
  · rw [if_pos h1, if_pos hi]
    by_cases h2 : i + 1 ≤ (c.length : Int)
    · rw [if_pos h2, hw]; exact ⟨_, _, rfl, hr.1, hr.2⟩
    · rw [if_neg h2]
      exact ⟨_, _, rfl, (and255 _).1, (and255 _).2⟩
  · rw [if_neg h1]
    by_cases h2 : i + 1 ≤ (c.length : Int)
    · rw [if_pos h2]; exact ⟨_, _, rfl, by omega, by omega⟩
    · rw [if_neg h2]
      exact ⟨_, _, rfl, (and255 _).1, (and255 _).2⟩
theorem pick_f {c : List Int} (h : byteL c) (i s n : Int) (hi : 0 ≤ i) (hi2 : i ≤ 1000000) (hn : 1 ≤ n) (hn2 : n ≤ 200) : ∃ x i2 s2, spec_l00Src_pick.f c i s n = some (x, i2, s2) ∧ 0 ≤ x ∧ x < n ∧ i ≤ i2 ∧ i2 ≤ i + 1 := by
  unfold spec_l00Src_pick.f
  by_cases h1 : n ≤ 1
  · rw [if_pos h1]; exact ⟨_, _, _, rfl, by omega, by omega, by omega, by omega⟩
  · rw [if_neg h1]
    obtain ⟨b, s2, e, hb, hb2⟩ := next_f h i s hi hi2
    rw [e]
    simp only [Option.bind_some]
    rw [if_neg (by omega), if_neg (by omega)]
    refine ⟨_, _, _, rfl, ?_, ?_, by omega, by omega⟩
    · exact Int.tmod_nonneg _ hb
    · exact Int.tmod_lt_of_pos _ (by omega)
theorem pick2_f {c : List Int} (h : byteL c) (i s n : Int) (hi : 0 ≤ i) (hi2 : i ≤ 999999) (hn : 201 ≤ n) : ∃ x i2 s2, spec_l00Src_pick.f c i s n = some (x, i2, s2) ∧ 0 ≤ x ∧ x < n ∧ i2 = i + 2 := by
  unfold spec_l00Src_pick.f
  rw [if_neg (by omega)]
  obtain ⟨b, s2, e, hb, hb2⟩ := next_f h i s hi (by omega)
  rw [e]
  simp only [Option.bind_some]
  rw [if_pos (by omega)]
  obtain ⟨b3, s3, e3, hb3, hb4⟩ := next_f h (i + 1) s2 (by omega) (by omega)
  rw [e3]
  simp only [Option.bind_some]
  rw [if_neg (by omega), wrap_id (x := b * 256) (by omega) (by omega), wrap_id (by omega) (by omega)]
  refine ⟨_, _, _, rfl, ?_, ?_, by omega⟩
  · exact Int.tmod_nonneg _ (by omega)
  · exact Int.tmod_lt_of_pos _ (by omega)
theorem at_f {c : List Int} (h : byteL c) (i n : Int) (hi : 0 ≤ i) (hn : 1 ≤ n) : ∃ x, laws_a2At.f c i n = some x ∧ 0 ≤ x ∧ x < n := by
  unfold laws_a2At.f
  have hr := rd_byte h i
  by_cases h1 : i ≥ (c.length : Int)
  · rw [if_pos h1]; exact ⟨_, rfl, by omega, by omega⟩
  · rw [if_neg h1, if_neg (by omega), if_pos hi, if_pos (by omega), if_neg (by omega), wrap_id (by omega) (by omega)]
    exact ⟨_, rfl, Int.tmod_nonneg _ hr.1, Int.tmod_lt_of_pos _ (by omega)⟩
end Go.Proofs.YtcblnnfodpglaaaGreatDoor.PuPickBNotched
-- a text of this session, cut down for this claim
namespace Go.Proofs.YtcblnnfodpglaaaGreatDoor.PuCutNNotched
open Go.RowKit Go.Proofs.YtcblnnfodpglaaaGreatDoor.MNotched Go.Proofs.YtcblnnfodpglaaaGreatDoorW.PrintWords Go.Proofs.YtcblnnfodpglaaaGreatDoorW.PrintLast Go.Proofs.YtcblnnfodpglaaaGreatDoor.Evs Go.Proofs.YtcblnnfodpglaaaGreatDoor.PuGrainNotched Go.Proofs.YtcblnnfodpglaaaGreatDoor.PuNotchNotched
set_option linter.unusedVariables false
set_option linter.unusedSimpArgs false
def mkN (a b : Int) : T := ⟨IntKind.i8.wrap a, IntKind.i16.wrap b⟩
def insT (n : T) : List T → List T
  | [] => [n]
  | x :: r => if x.f1 > n.f1 then n :: x :: r else x :: insT n r
theorem insT_length (n : T) : ∀ l, (insT n l).length = l.length + 1
  | [] => rfl
  | x :: r => by
    unfold insT
    split
    · simp
    · simp [insT_length n r]
theorem insT_mem {n z : T} : ∀ l, z ∈ insT n l → z = n ∨ z ∈ l
  | [], h => by simpa [insT] using h
  | x :: r, h => by
    unfold insT at h
    split at h
    · simpa using h
    · rcases List.mem_cons.1 h with h | h
      · exact .inr (by simp [h])
      · rcases insT_mem r h with h | h
        · exact .inl h
        · exact .inr (by simp [h])
theorem insT_at (n : T) : ∀ (l : List T) (i : Nat), (∀ x ∈ l.take i, x.f1 ≤ n.f1) → i ≤ l.length → (∀ h : i < l.length, l[i].f1 > n.f1) → insT n l = l.take i ++ [n] ++ l.drop i
  | [], i, _, _, _ => by simp [insT]
  | x :: r, 0, _, _, h => by
    have h0 : x.f1 > n.f1 := h (by simp)
    unfold insT
    rw [if_pos h0]
    simp
  | x :: r, i + 1, hb, hi, h => by
    have h0 : ¬ x.f1 > n.f1 := by have := hb x (by simp); omega
    unfold insT
    rw [if_neg h0, insT_at n r i (fun y hy => hb y (by simp [hy])) (by simpa using hi) (fun hlt => h (by simp; omega))]
    simp
theorem i16_id {x : Int} (h0 : -32768 ≤ x) (h1 : x ≤ 32767) : IntKind.i16.wrap x = x := by
  simp [IntKind.wrap, IntKind.signed, IntKind.bits]
  omega
theorem mkN_wf {a b : Int} (hk : kd a = true) (h0 : 0 ≤ b) (h1 : b ≤ 200) : wfT (mkN a b) := by
  have h := of_decide_eq_true hk
  unfold mkN wfT
  dsimp only
  rw [i8_id (by omega) (by omega), i16_id (by omega) (by omega)]
  omega
theorem cutS_ev (l : List T) (a b : Int) (hl : l.length ≤ 1000000) : Ev (fun k => spec_l01Cut.f k l a b) (insT (mkN a b) l) := by
  unfold spec_l01Cut.f
  have key := ev_forI (n := l.length) (G := fun k (s : List T × Bool) i => spec_l01Cut.l0 k l s.1 s.2 i (IntKind.i8.wrap a) (IntKind.i16.wrap b)) (F := fun (s : List T × Bool) i => s.1 ++ (if s.2 = true then l.drop i else insT (mkN a b) (l.drop i))) (I := fun s i => s.1.length ≤ 2 * i) ?_ ?_ 0 (by omega) ([], false) (by simp)
  · simpa using key
  · intro i hi ih s hI
    obtain ⟨acc, d⟩ := s
    dsimp only at hI ⊢
    refine Ev.step (fun k => by simp only [spec_l01Cut.l0]; rfl) (ev_pos (by omega) ?_)
    rw [wrap_up hi (by omega), rdT l i hi]
    rw [List.drop_eq_getElem_cons hi]
    cases d with
    | true =>
      refine ev_pos rfl (ev_pos (by omega) (ev_pos (by omega) ?_))
      exact ev_eq (ih (acc ++ [l[i]], true) (by simp; omega)) (by simp)
    | false =>
      refine ev_neg (by simp) (ev_pos (by omega) ?_)
      by_cases hc : l[i].f1 > IntKind.i16.wrap b
      · refine ev_pos hc (ev_pos (by omega) (ev_bind0 rfl (ev_pos (by simp; omega) ?_)))
        refine ev_eq (ih (acc ++ [mkN a b] ++ [l[i]], true) (by simp; omega)) ?_
        have hc' : l[i].f1 > (mkN a b).f1 := hc
        simp [insT, hc']
      · refine ev_neg hc (ev_pos (by omega) ?_)
        refine ev_eq (ih (acc ++ [l[i]], false) (by simp; omega)) ?_
        have hc' : ¬ l[i].f1 > (mkN a b).f1 := hc
        simp [insT, hc']
  · intro s hI
    obtain ⟨acc, d⟩ := s
    dsimp only at hI ⊢
    refine Ev.step (fun k => by simp only [spec_l01Cut.l0]; rfl) (ev_neg (by omega) ?_)
    cases d with
    | true => exact ev_pos rfl (ev_eq (Ev.now _) (by simp))
    | false => exact ev_neg (by simp) (ev_pos (by omega) (ev_eq (Ev.now _) (by simp [insT, mkN])))
theorem cloneN (l : List T) (hl : l.length ≤ 1000000) : impl_Notch_61.f l = some l := by
  unfold impl_Notch_61.f
  rw [Option.bind_some, if_pos (by simp; omega)]
  simp
theorem insN (l : List T) (i : Nat) (n : T) (hl : l.length ≤ 1000000) (hi : i ≤ l.length) : impl_Notch_60.f l (i : Int) [n] = some (l.take i ++ [n] ++ l.drop i) := by
  unfold impl_Notch_60.f
  rw [if_pos ⟨by omega, by omega, rfl, hl⟩, Int.toNat_natCast]
theorem cutI_ev (s : Bool) (l : List T) (g : G) (a b : Int) (hl : l.length ≤ 1000) (hw : ∀ x ∈ l, wfT x) (hk : kd a = true) (h0 : 0 ≤ b) (h1 : b ≤ 200) : Ev (fun k => impl_cut.f k s l g a b) (s, insT (mkN a b) l, g, validH (insT (mkN a b) l) g) := by
  unfold impl_cut.f
  have hb : (mkN a b).f1 = b := i16_id (by omega) (by omega)
  have hwn := mkN_wf hk h0 h1
  have hwi : ∀ x ∈ insT (mkN a b) l, wfT x := fun x hx => by
    rcases insT_mem l hx with h | h
    · rw [h]; exact hwn
    · exact hw x h
  have hv : Ev (fun k => impl_ValidHalf.f k s (insT (mkN a b) l) g) (validH (insT (mkN a b) l) g) := ValidHalfI_ev s _ g (by rw [insT_length]; unfold maxLen; omega) hwi
  have key : ∀ i : Nat, i ≤ l.length → (∀ x ∈ l.take i, x.f1 ≤ (mkN a b).f1) → Ev (fun k => impl_cut.l0 k a b (i : Int) s l g) (s, insT (mkN a b) l, g, validH (insT (mkN a b) l) g) := by
    intro i hi hp
    obtain ⟨d, hd⟩ : ∃ d, l.length - i = d := ⟨_, rfl⟩
    induction d generalizing i with
    | zero =>
      have : i = l.length := by omega
      refine Ev.step (fun k => by simp only [impl_cut.l0]; rfl) (ev_neg (by omega) (ev_bind0 (cloneN l (by omega)) (ev_bind0 (insN l i (mkN a b) (by omega) hi) ?_)))
      rw [← insT_at (mkN a b) l i hp hi (fun h => by omega)]
      exact Ev.bind hv (Ev.now _)
    | succ d ih =>
      have hlt : i < l.length := by omega
      refine Ev.step (fun k => by simp only [impl_cut.l0]; rfl) (ev_pos (by omega) (ev_pos (by omega) ?_))
      rw [rdT l i hlt, wrap_i16 (hw _ (List.getElem_mem hlt)), wrap_up hlt (by omega)]
      by_cases hc : l[i].f1 ≤ b
      · refine ev_pos hc ?_
        have := ih (i + 1) (by omega) (fun x hx => by
          rw [List.take_add_one, List.getElem?_eq_getElem hlt] at hx
          rcases List.mem_append.1 hx with h | h
          · exact hp x h
          · rw [show x = l[i] by simpa using h, hb]; exact hc) (by omega)
        rw [show ((i + 1 : Nat) : Int) = (i : Int) + 1 by omega] at this
        exact this
      · refine ev_neg hc (ev_bind0 (cloneN l (by omega)) (ev_bind0 (insN l i (mkN a b) (by omega) hi) ?_))
        rw [← insT_at (mkN a b) l i hp hi (fun h => by rw [hb]; omega)]
        exact Ev.bind hv (Ev.now _)
  exact key 0 (by omega) (by simp)
end Go.Proofs.YtcblnnfodpglaaaGreatDoor.PuCutNNotched
-- a text of this session, cut down for this claim
namespace Go.Proofs.YtcblnnfodpglaaaGreatDoor.PuCutN2Notched
open Go.RowKit Go.Proofs.YtcblnnfodpglaaaGreatDoor.MNotched Go.Proofs.YtcblnnfodpglaaaGreatDoorW.PrintWords Go.Proofs.YtcblnnfodpglaaaGreatDoorW.PrintLast Go.Proofs.YtcblnnfodpglaaaGreatDoor.Evs Go.Proofs.YtcblnnfodpglaaaGreatDoor.PuGrainNotched Go.Proofs.YtcblnnfodpglaaaGreatDoor.PuNotchNotched Go.Proofs.YtcblnnfodpglaaaGreatDoor.PuCutNNotched
set_option linter.unusedVariables false
set_option linter.unusedSimpArgs false
def cutH (s : Bool) (l : List T) (g : G) (a b : Int) : Bool × List T × G × Int :=
  if validH l g = true then
    if kd a = true ∧ 0 ≤ b ∧ b ≤ 200 then
      if validH (insT (mkN a b) l) g = true then (s, insT (mkN a b) l, g, 0) else (false, [], zeroG, 4)
    else (false, [], zeroG, 2)
  else (false, [], zeroG, 1)
theorem CutNotchS_ev (s : Bool) (l : List T) (g : G) (a b : Int) (hl : l.length ≤ maxLen) (hw : ∀ n ∈ l, wfT n) : Ev (fun k => spec_CutNotch.f k s l g a b) (cutH s l g a b) := by
  unfold spec_CutNotch.f
  refine Ev.bind (okS_ev s l g hl hw) ?_
  unfold cutH
  by_cases hv : validH l g = true
  · have hlen := valid_len (validH_N hv)
    refine ev_pos hv (ev_bind0 (kindS a) ?_)
    rw [if_pos hv]
    by_cases hk : kd a = true
    · refine ev_pos hk (ev_bind0 (l00In_f b 0 200) ?_)
      by_cases hb : 0 ≤ b ∧ b ≤ 200
      · rw [if_pos ⟨hk, hb⟩]
        refine Ev.step (fun k => by simp only [spec_CutNotch.j0]; rfl) (ev_neg (by simp [hb]) (Ev.bind (cutS_ev l a b (by omega)) ?_))
        have hwi : ∀ x ∈ insT (mkN a b) l, wfT x := fun x hx => by
          rcases insT_mem l hx with h | h
          · rw [h]; exact mkN_wf hk hb.1 hb.2
          · exact hw x h
        refine Ev.bind (okS_ev s _ g (by rw [insT_length]; unfold maxLen; omega) hwi) ?_
        by_cases h2 : validH (insT (mkN a b) l) g = true
        · exact ev_pos h2 (ev_eq (Ev.now _) (if_pos h2).symm)
        · exact ev_neg h2 (ev_eq (Ev.now _) (if_neg h2).symm)
      · rw [if_neg (fun h => hb h.2)]
        exact Ev.step (fun k => by simp only [spec_CutNotch.j0]; rfl) (ev_pos (by simp only [Bool.not_eq_true', decide_eq_false_iff_not]; exact hb) (Ev.now _))
    · rw [if_neg (fun h => hk h.1)]
      refine ev_neg hk (Ev.step (fun k => by simp only [spec_CutNotch.j0]; rfl) ?_)
      exact ev_pos trivial (Ev.now _)
  · rw [if_neg hv]; exact ev_neg hv (Ev.now _)
theorem CutNotchI_ev (s : Bool) (l : List T) (g : G) (a b : Int) (hl : l.length ≤ maxLen) (hw : ∀ n ∈ l, wfT n) : Ev (fun k => impl_CutNotch.f k s l g a b) (cutH s l g a b) := by
  unfold impl_CutNotch.f
  refine Ev.bind (ValidHalfI_ev s l g hl hw) ?_
  unfold cutH
  by_cases hv : validH l g = true
  · have hlen := valid_len (validH_N hv)
    refine ev_pos hv (ev_bind0 (kindI a) ?_)
    rw [if_pos hv]
    by_cases hk : kd a = true
    · refine ev_pos hk ?_
      by_cases h0 : b < 0
      · rw [if_neg (fun h => by omega)]
        refine ev_pos h0 (Ev.step (fun k => by simp only [impl_CutNotch.j0]; rfl) ?_)
        exact ev_pos trivial (Ev.now _)
      · refine ev_neg h0 ?_
        by_cases h1 : b > 200
        · rw [if_neg (fun h => by omega)]
          exact Ev.step (fun k => by simp only [impl_CutNotch.j0]; rfl) (ev_pos (by simpa using h1) (Ev.now _))
        · rw [if_pos ⟨hk, by omega, by omega⟩]
          refine Ev.step (fun k => by simp only [impl_CutNotch.j0]; rfl) (ev_neg (by simpa using h1) (Ev.bind (cutI_ev s l g a b (by omega) hw hk (by omega) (by omega)) ?_))
          by_cases h2 : validH (insT (mkN a b) l) g = true
          · exact ev_pos h2 (ev_eq (Ev.now _) (if_pos h2).symm)
          · exact ev_neg h2 (ev_eq (Ev.now _) (if_neg h2).symm)
    · rw [if_neg (fun h => hk h.1)]
      refine ev_neg hk (Ev.step (fun k => by simp only [impl_CutNotch.j0]; rfl) ?_)
      exact ev_pos trivial (Ev.now _)
  · rw [if_neg hv]; exact ev_neg hv (Ev.now _)
end Go.Proofs.YtcblnnfodpglaaaGreatDoor.PuCutN2Notched
-- a text of this session, cut down for this claim
namespace Go.Proofs.YtcblnnfodpglaaaGreatDoor.PuRoomNotched
open Go.RowKit Go.Proofs.YtcblnnfodpglaaaGreatDoor.MNotched Go.Proofs.YtcblnnfodpglaaaGreatDoorW.PrintWords Go.Proofs.YtcblnnfodpglaaaGreatDoorW.PrintLast Go.Proofs.YtcblnnfodpglaaaGreatDoor.Evs Go.Proofs.YtcblnnfodpglaaaGreatDoor.PuGrainNotched Go.Proofs.YtcblnnfodpglaaaGreatDoor.PuNotchNotched Go.Proofs.YtcblnnfodpglaaaGreatDoor.PuCutNNotched
set_option linter.unusedVariables false
set_option linter.unusedSimpArgs false
def rest (l : List T) (a : Int) (i : Nat) : List Int := ((List.range' i (201 - i)).filter (fun j : Nat => validN (insT (mkN a (j : Int)) l))).map (fun j : Nat => (j : Int))
theorem rest_step (l : List T) (a : Int) (i : Nat) (h : i < 201) : rest l a i = if validN (insT (mkN a (i : Int)) l) = true then (i : Int) :: rest l a (i + 1) else rest l a (i + 1) := by
  unfold rest
  rw [show 201 - i = (201 - (i + 1)) + 1 by omega, List.range'_succ, List.filter_cons]
  split <;> simp
theorem rest_end (l : List T) (a : Int) : rest l a 201 = [] := by simp [rest]
theorem rest_len (l : List T) (a : Int) : (rest l a 0).length ≤ 201 := by
  unfold rest
  rw [List.length_map]
  exact Nat.le_trans (List.length_filter_le _ _) (by simp)
def roomR (l : List T) (g : G) (a : Int) : List Int × Int := if validH l g = true then (if kd a = true then (rest l a 0, 0) else ([], 2)) else ([], 1)
theorem ins_wf {l : List T} (hw : ∀ n ∈ l, wfT n) {a : Int} (hk : kd a = true) {i : Nat} (hi : i < 201) : ∀ n ∈ insT (mkN a (i : Int)) l, wfT n := fun x hx => by
  rcases insT_mem l hx with h | h
  · rw [h]; exact mkN_wf hk (by omega) (by omega)
  · exact hw x h
theorem askedS_ev (s : Bool) (l : List T) (g : G) (a : Int) (hl : l.length ≤ maxLen) (hw : ∀ n ∈ l, wfT n) : Ev (fun k => spec_l01Asked.f k s l g a) (if validH l g = true then (if kd a = true then 0 else 2) else 1) := by
  unfold spec_l01Asked.f
  refine Ev.bind (okS_ev s l g hl hw) ?_
  by_cases hv : validH l g = true
  · refine ev_pos hv (ev_bind0 (kindS a) ?_)
    by_cases hk : kd a = true
    · exact ev_pos hk (ev_eq (Ev.now _) (by rw [if_pos hv, if_pos hk]))
    · exact ev_neg hk (ev_eq (Ev.now _) (by rw [if_pos hv, if_neg hk]))
  · exact ev_neg hv (ev_eq (Ev.now _) (if_neg hv).symm)
theorem RoomS_ev (s : Bool) (l : List T) (g : G) (a : Int) (hl : l.length ≤ maxLen) (hw : ∀ n ∈ l, wfT n) : Ev (fun k => spec_RoomFor.f k s l g a) (roomR l g a) := by
  unfold spec_RoomFor.f
  refine Ev.bind (askedS_ev s l g a hl hw) ?_
  unfold roomR
  by_cases hv : validH l g = true
  · have hlen := valid_len (validH_N hv)
    rw [if_pos hv, if_pos hv]
    by_cases hk : kd a = true
    · rw [if_pos hk, if_pos hk]
      refine ev_pos rfl ?_
      have key := ev_forI (n := 201) (G := fun k (q : List Int) i => spec_RoomFor.l0 k a q i s l g) (F := fun q i => (q ++ rest l a i, (0 : Int))) (I := fun q i => q.length ≤ i) ?_ ?_ 0 (by omega) [] (by simp)
      · simpa using key
      · intro i hi ih q hI
        refine Ev.step (fun k => by simp only [spec_RoomFor.l0]; rfl) (ev_pos (by omega) (Ev.bind (cutS_ev l a i (by omega)) (Ev.bind (notchesS_ev _ (by rw [insT_length]; unfold maxLen; omega) (ins_wf hw hk hi)) ?_)))
        rw [wrap_up hi (by omega), rest_step l a i hi]
        by_cases h : validN (insT (mkN a (i : Int)) l) = true
        · refine ev_pos h (ev_pos (by omega) (ev_eq (ih (q ++ [(i : Int)]) (by simp; omega)) ?_))
          rw [if_pos h]; simp
        · refine ev_neg h (ev_eq (ih q (by omega)) ?_)
          rw [if_neg h]
      · intro q hI
        refine Ev.step (fun k => by simp only [spec_RoomFor.l0]; rfl) (ev_neg (by omega) (ev_eq (Ev.now _) ?_))
        rw [rest_end]; simp
    · rw [if_neg hk, if_neg hk]
      exact ev_neg (by decide) (Ev.now _)
  · rw [if_neg hv, if_neg hv]
    exact ev_neg (by decide) (Ev.now _)
theorem RoomI_ev (s : Bool) (l : List T) (g : G) (a : Int) (hl : l.length ≤ maxLen) (hw : ∀ n ∈ l, wfT n) : Ev (fun k => impl_RoomFor.f k s l g a) (roomR l g a) := by
  unfold impl_RoomFor.f
  refine Ev.bind (ValidHalfI_ev s l g hl hw) ?_
  unfold roomR
  by_cases hv : validH l g = true
  · have hlen := valid_len (validH_N hv)
    have hg : okG g = true := by
      unfold validH at hv
      exact (Bool.and_eq_true_iff.1 hv).2
    refine ev_pos hv (ev_bind0 (kindI a) ?_)
    rw [if_pos hv]
    by_cases hk : kd a = true
    · refine ev_pos hk ?_
      rw [if_pos hk]
      refine Ev.bind (f := fun _ x => some (x, (0 : Int))) (r := (rest l a 0, (0 : Int))) (a := rest l a 0) ?_ (Ev.now _)
      unfold impl_room.f
      have key := ev_forI (n := 201) (G := fun k (q : List Int) i => impl_room.l0 k a q i s l g) (F := fun q i => q ++ rest l a i) (I := fun q i => q.length ≤ i) ?_ ?_ 0 (by omega) [] (by simp)
      · simpa using key
      · intro i hi ih q hI
        refine Ev.step (fun k => by simp only [impl_room.l0]; rfl) (ev_pos (by omega) (Ev.bind (cutI_ev s l g a i (by omega) hw hk (by omega) (by omega)) ?_))
        rw [wrap_up hi (by omega), rest_step l a i hi]
        have e : validH (insT (mkN a (i : Int)) l) g = validN (insT (mkN a (i : Int)) l) := by unfold validH; rw [hg, Bool.and_true]
        by_cases h : validN (insT (mkN a (i : Int)) l) = true
        · refine ev_pos (e.trans h) (ev_pos (by omega) (ev_eq (ih (q ++ [(i : Int)]) (by simp; omega)) ?_))
          rw [if_pos h]; simp
        · refine ev_neg (by rw [← e] at h; exact h) (ev_eq (ih q (by omega)) ?_)
          rw [if_neg h]
      · intro q hI
        refine Ev.step (fun k => by simp only [impl_room.l0]; rfl) (ev_neg (by omega) (ev_eq (Ev.now _) ?_))
        rw [rest_end]; simp
    · rw [if_neg hk]
      exact ev_neg hk (Ev.now _)
  · rw [if_neg hv]
    exact ev_neg hv (Ev.now _)
end Go.Proofs.YtcblnnfodpglaaaGreatDoor.PuRoomNotched
-- a text of this session, cut down for this claim
namespace Go.Proofs.YtcblnnfodpglaaaGreatDoor.PuNotFNotched
open Go.RowKit Go.Proofs.YtcblnnfodpglaaaGreatDoor.MNotched Go.Proofs.YtcblnnfodpglaaaGreatDoorW.PrintWords Go.Proofs.YtcblnnfodpglaaaGreatDoorW.PrintLast Go.Proofs.YtcblnnfodpglaaaGreatDoor.Evs Go.Proofs.YtcblnnfodpglaaaGreatDoor.PuGrainNotched Go.Proofs.YtcblnnfodpglaaaGreatDoor.PuNotchNotched Go.Proofs.YtcblnnfodpglaaaGreatDoor.PuNotchSNotched Go.Proofs.YtcblnnfodpglaaaGreatDoor.PuHalf1Notched Go.Proofs.YtcblnnfodpglaaaGreatDoor.PuMisNotched Go.Proofs.YtcblnnfodpglaaaGreatDoor.PuCutNNotched Go.Proofs.YtcblnnfodpglaaaGreatDoor.PuRoomNotched
set_option linter.unusedVariables false
set_option linter.unusedSimpArgs false
theorem sum_ins (n : T) : ∀ l : List T, sumN (insT n l) = sumN l + wo n.f0
  | [] => by simp [insT, sumN]
  | x :: r => by
    unfold insT
    split
    · simp [sumN]; omega
    · have := sum_ins n r
      simp only [sumN, List.map_cons, List.sum_cons] at this ⊢
      omega
theorem ins_ne (n : T) (l : List T) : insT n l ≠ l := fun h => by
  have := insT_length n l
  rw [h] at this
  omega
theorem mis_ins (n : T) (l : List T) : misFrom l (insT n l) 0 ≠ [] := by
  intro h
  have hl := insT_length n l
  have hm : most l (insT n l) = l.length + 1 := by unfold most; rw [if_pos (by omega), hl]
  have : ((l.length : Nat) : Int) ∈ misFrom l (insT n l) 0 := by
    unfold misFrom
    refine List.mem_map.2 ⟨l.length, List.mem_filter.2 ⟨List.mem_range'.2 ⟨l.length, by omega, by omega⟩, dec_true ?_⟩, rfl⟩
    rw [List.getElem?_eq_none (Nat.le_refl _), List.getElem?_eq_getElem (by omega)]
    simp
  rw [h] at this
  cases this
theorem lastE_le {l : List T} (h : validN l = true) : lastE l ≤ 200 := by
  unfold lastE
  split
  · omega
  · have := of_decide_eq_true (valid_ok1 h _ (List.getElem_mem (show l.length - 1 < l.length by omega)))
    omega
theorem mem_rest (l : List T) (a x : Int) : x ∈ rest l a 0 ↔ (0 ≤ x ∧ x ≤ 200) ∧ validN (insT (mkN a x) l) = true := by
  unfold rest
  rw [List.mem_map]
  constructor
  · rintro ⟨j, hj, rfl⟩
    have h := List.mem_filter.1 hj
    obtain ⟨i, hi, e⟩ := List.mem_range'.1 h.1
    exact ⟨⟨by omega, by omega⟩, h.2⟩
  · rintro ⟨⟨h0, h1⟩, h⟩
    refine ⟨x.toNat, List.mem_filter.2 ⟨List.mem_range'.2 ⟨x.toNat, by omega, by omega⟩, ?_⟩, by omega⟩
    rw [show ((x.toNat : Nat) : Int) = x by omega]
    exact h
end Go.Proofs.YtcblnnfodpglaaaGreatDoor.PuNotFNotched
-- a text of this session, cut down for this claim
namespace Go.Proofs.YtcblnnfodpglaaaGreatDoor.PuForBNotched
open Go.RowKit Go.Proofs.YtcblnnfodpglaaaGreatDoor.MNotched Go.Proofs.YtcblnnfodpglaaaGreatDoorW.PrintWords Go.Proofs.YtcblnnfodpglaaaGreatDoorW.PrintLast Go.Proofs.YtcblnnfodpglaaaGreatDoor.Evs Go.Proofs.YtcblnnfodpglaaaGreatDoor.PuGrainNotched Go.Proofs.YtcblnnfodpglaaaGreatDoor.PuNotchNotched Go.Proofs.YtcblnnfodpglaaaGreatDoor.PuHalf1Notched
set_option linter.unusedVariables false
set_option linter.unusedSimpArgs false
def nT (k at_ : Int) : T := ⟨IntKind.i8.wrap k, IntKind.i16.wrap at_⟩
def run (k : Int) : Int → Nat → List T
  | _, 0 => []
  | a, c + 1 => nT k a :: run k (a + (wd k + 1)) c
def gre : Nat → Int → Int → List T
  | 0, _, _ => []
  | m + 1, x, a => run m a (x / wo m).toNat ++ gre m (x % wo m) (a + (x / wo m) * (wd m + 1))
theorem gre_take (m : Nat) (x a : Int) (hm : m ≤ 5) (h : wo m ≤ x) : gre (m + 1) x a = nT m a :: gre (m + 1) (x - wo m) (a + (wd m + 1)) := by
  have hp := wo_pos (m : Int) (by omega) (by omega)
  have e1 : x / wo m = (x - wo m) / wo m + 1 := by
    rw [← Int.add_mul_ediv_right _ 1 (by omega : wo m ≠ 0)]; congr 1; omega
  have e2 : x % wo m = (x - wo m) % wo m := by rw [Int.sub_emod_right]
  have h0 : 0 ≤ (x - wo m) / wo m := Int.ediv_nonneg (by omega) (by omega)
  simp only [gre]
  rw [e1, e2, show ((x - wo m) / wo m + 1).toNat = ((x - wo m) / wo m).toNat + 1 by omega]
  simp only [run, List.cons_append]
  congr 2
  rw [Int.add_mul]; congr 1; omega
theorem gre_skip (m : Nat) (x a : Int) (hm : m ≤ 5) (h0 : 0 ≤ x) (h : x < wo m) : gre (m + 1) x a = gre m x a := by
  simp only [gre]
  rw [Int.ediv_eq_zero_of_lt h0 h, Int.emod_eq_of_lt h0 h]
  simp [run]
theorem valid_append_false {l r : List T} {n : T} (h : ok1 n = false) : validN (l ++ n :: r) = false := by
  cases hv : validN (l ++ n :: r) with
  | false => rfl
  | true => rw [valid_ok1 hv n (by simp)] at h; cases h
theorem i16_id {x : Int} (h0 : -32768 ≤ x) (h1 : x ≤ 32767) : IntKind.i16.wrap x = x := by
  simp only [IntKind.wrap, IntKind.bits, IntKind.signed]
  simp
  omega
theorem nT_f0 (m : Nat) (a : Int) (hm : m ≤ 5) : (nT m a).f0 = m := i8_id (by omega) (by omega)
theorem nT_wf (m : Nat) (a : Int) (hm : m ≤ 5) (h0 : 0 ≤ a) (h1 : a ≤ 32767) : wfT (nT m a) := by
  unfold wfT
  rw [nT_f0 m a hm, show (nT m a).f1 = a from i16_id (by omega) h1]
  omega
theorem nT_bad (m : Nat) (a : Int) (hm : m ≤ 5) (h0 : 200 < a) (h1 : a ≤ 32767) : ok1 (nT m a) = false := by
  refine decide_eq_false (fun h => ?_)
  have h2 := h.2.2.2
  unfold en at h2
  have := wd_bd (nT m a).f0
  rw [show (nT m a).f1 = a from i16_id (by omega) h1] at h2
  omega
def AnsS (L : List T) (r : List T × Bool) : Prop := r.2 = validN L ∧ (r.2 = true → r.1 = L)
def InvS (x a : Int) (out : List T) : Prop := 0 ≤ x ∧ x ≤ 9000000000000000000 ∧ 0 ≤ a ∧ a ≤ 213 ∧ 2 * (out.length : Int) ≤ a ∧ ∀ n ∈ out, wfT n
theorem forS_in (m : Nat) (hm : m ≤ 5)
    (next : ∀ (x a : Int) (out : List T), InvS x a out → ∃ r, Ev (fun k => spec_l01For.l0 k x out a ((m : Int) - 1)) r ∧ AnsS (out ++ gre m x a) r) :
    ∀ (c : Nat) (x a : Int) (out : List T), x.toNat ≤ c → InvS x a out → ∃ r, Ev (fun k => spec_l01For.l1 k x out a (m : Int) (wo m)) r ∧ AnsS (out ++ gre (m + 1) x a) r := by
  have hp := wo_pos (m : Int) (by omega) (by omega)
  have hwb := wd_bd (m : Int)
  have hwp := wd_pos (m : Int) (by omega) (by omega)
  intro c
  induction c with
  | zero =>
    intro x a out hc hI
    obtain ⟨r, hr, hA⟩ := next x a out hI
    obtain ⟨hx0, hx, ha0, ha, hl, hw⟩ := hI
    refine ⟨r, Ev.step (fun k => ?_) hr, ?_⟩
    · simp only [spec_l01For.l1]
      rw [if_neg (by omega), wrap_id (x := (m : Int) - 1) (by omega) (by omega)]
    · rw [gre_skip m x a hm hx0 (by omega)]; exact hA
  | succ c ih =>
    intro x a out hc hI
    by_cases h : wo m ≤ x
    · obtain ⟨hx0, hx, ha0, ha, hl, hw⟩ := hI
      by_cases h2 : 200 < a
      · refine ⟨(out, false), Ev.step (f := fun _ => some (out, false)) (fun k => ?_) (Ev.now _), ?_, fun z => by cases z⟩
        · simp only [spec_l01For.l1]
          rw [if_pos (by omega), if_pos (by omega)]
        · rw [gre_take m x a hm h]; exact (valid_append_false (nT_bad m a hm h2 (by omega))).symm
      · obtain ⟨r, hr, hA⟩ := ih (x - wo m) (a + (wd m + 1)) (out ++ [nT m a]) (by omega) ⟨by omega, by omega, by omega, by omega, by rw [List.length_append]; simp only [List.length_singleton]; omega, by
          intro n hn
          rcases List.mem_append.1 hn with hn | hn
          · exact hw n hn
          · rw [List.mem_singleton.1 hn]; exact nT_wf m a hm ha0 (by omega)⟩
        refine ⟨r, Ev.step (fun k => ?_) hr, ?_⟩
        · simp only [spec_l01For.l1, spec_l01Widths.f, Option.bind_some]
          rw [if_pos (by omega), if_neg (by omega), if_pos (by omega), if_pos (by omega), if_pos (by simp; omega), wrap_id (x := x - wo m) (by omega) (by omega), show rd [1, 2, 4, 6, 9, 12] (m : Int) = wd m from rfl, wrap_id (x := wd m + 1) (by omega) (by omega), wrap_id (x := a + (wd m + 1)) (by omega) (by omega)]
          rfl
        · rw [gre_take m x a hm h]
          rw [List.append_assoc] at hA; exact hA
    · obtain ⟨r, hr, hA⟩ := next x a out hI
      obtain ⟨hx0, hx, ha0, ha, hl, hw⟩ := hI
      refine ⟨r, Ev.step (fun k => ?_) hr, ?_⟩
      · simp only [spec_l01For.l1]
        rw [if_neg (by omega), wrap_id (x := (m : Int) - 1) (by omega) (by omega)]
      · rw [gre_skip m x a hm hx0 (by omega)]; exact hA
theorem forS_out : ∀ (m : Nat), m ≤ 6 → ∀ (x a : Int) (out : List T), InvS x a out → ∃ r, Ev (fun k => spec_l01For.l0 k x out a ((m : Int) - 1)) r ∧ AnsS (out ++ gre m x a) r := by
  intro m
  induction m with
  | zero =>
    intro hm x a out ⟨hx0, hx, ha0, ha, hl, hw⟩
    refine ⟨(out, validN out), Ev.step (f := fun k => (spec_l01Notches.f k out).bind fun t => some (out, t)) (fun k => ?_) (Ev.bind (notchesS_ev out (by unfold maxLen; omega) hw) (Ev.now _)), ?_⟩
    · simp only [spec_l01For.l0]
      rw [if_neg (by omega)]
    · simp only [gre, List.append_nil]; exact ⟨rfl, fun _ => rfl⟩
  | succ m ih =>
    intro hm x a out hI
    obtain ⟨r, hr, hA⟩ := forS_in m (by omega) (ih (by omega)) x.toNat x a out (Nat.le_refl _) hI
    refine ⟨r, Ev.step (fun k => ?_) hr, hA⟩
    simp only [spec_l01For.l0, spec_l01Worths.f, Option.bind_some]
    rw [if_pos (by omega), if_pos (by omega), if_pos (by simp; omega), show ((m + 1 : Nat) : Int) - 1 = (m : Int) by omega]
    rfl
end Go.Proofs.YtcblnnfodpglaaaGreatDoor.PuForBNotched
-- a text of this session, cut down for this claim
namespace Go.Proofs.YtcblnnfodpglaaaGreatDoor.PuDrawHNotched
open Go.RowKit Go.Proofs.YtcblnnfodpglaaaGreatDoor.MNotched Go.Proofs.YtcblnnfodpglaaaGreatDoorW.PrintWords Go.Proofs.YtcblnnfodpglaaaGreatDoorW.PrintLast Go.Proofs.YtcblnnfodpglaaaGreatDoor.Evs Go.Proofs.YtcblnnfodpglaaaGreatDoor.PuGrainNotched Go.Proofs.YtcblnnfodpglaaaGreatDoor.PuNotchNotched Go.Proofs.YtcblnnfodpglaaaGreatDoor.PuHalf1Notched Go.Proofs.YtcblnnfodpglaaaGreatDoor.PuForBNotched Go.Proofs.YtcblnnfodpglaaaGreatDoor.PuPickBNotched
set_option linter.unusedVariables false
set_option linter.unusedSimpArgs false
theorem one_f {c : List Int} (h : byteL c) (i s n : Int) (hi : 0 ≤ i) (hi2 : i ≤ 1000000) (hn : 1 ≤ n) (hn2 : n ≤ 200) : ∃ b i2 s2, spec_l00Src_one.f c i s n = some (b, i2, s2) ∧ i ≤ i2 ∧ i2 ≤ i + 1 := by
  obtain ⟨x, i2, s2, e, _, _, h1, h2⟩ := pick_f h i s n hi hi2 hn hn2
  unfold spec_l00Src_one.f
  rw [e]
  exact ⟨_, _, _, rfl, h1, h2⟩
def lastN (l : List T) (p : Option T) : Option T := match l.getLast? with | some x => some x | none => p
theorem chain_snoc (n : T) : ∀ (l : List T) (p : Option T), chain p l = true → ok1 n = true → okP (lastN l p) n = true → chain p (l ++ [n]) = true
  | [], p, _, h1, h2 => by
    show (ok1 n && okP p n && chain (some n) []) = true
    rw [h1, show okP p n = true from h2]; rfl
  | x :: l, p, hc, h1, h2 => by
    have hc' : (ok1 x && okP p x && chain (some x) l) = true := hc
    simp only [Bool.and_eq_true] at hc'
    show (ok1 x && okP p x && chain (some x) (l ++ [n])) = true
    rw [hc'.1.1, hc'.1.2, chain_snoc n l (some x) hc'.2 h1 (by
      rw [← h2]
      congr 1
      cases l with
      | nil => rfl
      | cons y l =>
        simp only [lastN]
        rw [List.getLast?_cons_cons]
        cases hq : (y :: l).getLast? with
        | some z => rfl
        | none => simp at hq)]
    rfl
def Inv (l : List T) (kind at_ : Int) : Prop := validN l = true ∧ (∀ n ∈ l, wfT n) ∧ 0 ≤ kind ∧ kind ≤ 5 ∧ 0 ≤ at_ ∧ ∀ x, l.getLast? = some x → kind ≤ x.f0 ∧ en x < at_
theorem inv_add {l : List T} {kind at_ : Int} (h : Inv l kind at_) (hl : l.length ≤ 59) (hw : at_ + wd kind ≤ 200) {k2 a2 : Int} (hk : 0 ≤ k2) (hk2 : k2 ≤ kind) (ha : at_ + wd kind < a2) : Inv (l ++ [(⟨IntKind.i8.wrap kind, IntKind.i16.wrap at_⟩ : T)]) k2 a2 := by
  obtain ⟨hv, hwf, h0, h1, h2, hlast⟩ := h
  have hwd := wd_bd kind
  have e0 : IntKind.i8.wrap kind = kind := i8_id (by omega) (by omega)
  have e1 : IntKind.i16.wrap at_ = at_ := i16_id (by omega) (by omega)
  rw [e0, e1]
  have hok : ok1 (⟨kind, at_⟩ : T) = true := decide_eq_true ⟨h0, h1, h2, hw⟩
  have hwn : wfT (⟨kind, at_⟩ : T) := ⟨⟨by show -128 ≤ kind; omega, by show kind ≤ 127; omega⟩, by show -32768 ≤ at_; omega, by show at_ ≤ 32767; omega⟩
  unfold validN at hv
  simp only [Bool.and_eq_true] at hv
  refine ⟨?_, ?_, hk, by omega, by omega, ?_⟩
  · unfold validN
    rw [Bool.and_eq_true]
    refine ⟨decide_eq_true (by simp; omega), chain_snoc _ _ _ hv.2 hok ?_⟩
    unfold lastN
    cases hg : l.getLast? with
    | none => rfl
    | some x => exact decide_eq_true (hlast x hg)
  · intro n hn
    rcases List.mem_append.1 hn with h | h
    · exact hwf n h
    · rw [show n = _ from by simpa using h]; exact hwn
  · intro x hx
    rw [List.getLast?_append] at hx
    obtain rfl : (⟨kind, at_⟩ : T) = x := by simpa using hx
    exact ⟨hk2, ha⟩
theorem inv_mono {l : List T} {k k2 a : Int} (h : Inv l k a) (h0 : 0 ≤ k2) (h1 : k2 ≤ k) : Inv l k2 a :=
  ⟨h.1, h.2.1, h0, by have := h.2.2.2.1; omega, h.2.2.2.2.1, fun x hx => by have := h.2.2.2.2.2 x hx; omega⟩
theorem inv_run (m : Nat) (hm : m ≤ 5) : ∀ (c : Nat) (l : List T) (a : Int), Inv l m a → l.length + c ≤ 60 → a + c * (wd m + 1) ≤ 201 → Inv (l ++ run m a c) m (a + c * (wd m + 1))
  | 0, l, a, h, _, _ => by
    rw [show run (m : Int) a 0 = [] from rfl, List.append_nil, show a + ((0 : Nat) : Int) * (wd m + 1) = a by simp]
    exact h
  | c + 1, l, a, h, hl, ha => by
    have hwd := wd_bd m
    have e : ((c + 1 : Nat) : Int) * (wd m + 1) = (c : Int) * (wd m + 1) + (wd m + 1) := by rw [show ((c + 1 : Nat) : Int) = (c : Int) + 1 by omega, Int.add_mul]; omega
    have hnn : 0 ≤ (c : Int) * (wd m + 1) := Int.mul_nonneg (by omega) (by omega)
    rw [e] at ha ⊢
    have hI := inv_run m hm c (l ++ [nT m a]) (a + (wd m + 1)) (inv_add h (by omega) (by omega) (by omega) (Int.le_refl _) (by omega)) (by simp; omega) (by omega)
    rw [show run (m : Int) a (c + 1) = nT m a :: run m (a + (wd m + 1)) c from rfl, show l ++ nT m a :: run m (a + (wd m + 1)) c = (l ++ [nT m a]) ++ run m (a + (wd m + 1)) c by simp]
    rw [show a + ((c : Int) * (wd m + 1) + (wd m + 1)) = a + (wd m + 1) + (c : Int) * (wd m + 1) by omega]
    exact hI
theorem run_len (m : Int) : ∀ (c : Nat) (a : Int), (run m a c).length = c
  | 0, a => rfl
  | c + 1, a => by show (run m _ c).length + 1 = _; rw [run_len m c]
theorem gre_ok {x : Int} (h0 : 0 ≤ x) (h1 : x < 6000) : validN (gre 6 x 0) = true := by
  obtain ⟨a, ha⟩ : ∃ a : Nat, (x / 4800).toNat = a := ⟨_, rfl⟩
  obtain ⟨b, hb⟩ : ∃ b : Nat, (x % 4800 / 240).toNat = b := ⟨_, rfl⟩
  obtain ⟨c, hc⟩ : ∃ c : Nat, (x % 240 / 12).toNat = c := ⟨_, rfl⟩
  obtain ⟨d, hd⟩ : ∃ d : Nat, (x % 12).toNat = d := ⟨_, rfl⟩
  have e : gre 6 x 0 = run 3 0 a ++ (run 2 (a * 7) b ++ (run 1 (a * 7 + b * 5) c ++ run 0 (a * 7 + b * 5 + c * 3) d)) := by
    show run 5 0 (x / 240000).toNat ++ (run 4 (0 + (x / 240000) * 13) (x % 240000 / 24000).toNat ++ (run 3 (0 + (x / 240000) * 13 + (x % 240000 / 24000) * 10) (x % 240000 % 24000 / 4800).toNat ++ (run 2 (0 + (x / 240000) * 13 + (x % 240000 / 24000) * 10 + (x % 240000 % 24000 / 4800) * 7) (x % 240000 % 24000 % 4800 / 240).toNat ++ (run 1 (0 + (x / 240000) * 13 + (x % 240000 / 24000) * 10 + (x % 240000 % 24000 / 4800) * 7 + (x % 240000 % 24000 % 4800 / 240) * 5) (x % 240000 % 24000 % 4800 % 240 / 12).toNat ++ (run 0 (0 + (x / 240000) * 13 + (x % 240000 / 24000) * 10 + (x % 240000 % 24000 / 4800) * 7 + (x % 240000 % 24000 % 4800 / 240) * 5 + (x % 240000 % 24000 % 4800 % 240 / 12) * 3) (x % 240000 % 24000 % 4800 % 240 % 12 / 1).toNat ++ []))))) = _
    have q5 : x / 240000 = 0 := by omega
    have q4 : x % 240000 / 24000 = 0 := by omega
    have m4 : x % 240000 % 24000 = x := by omega
    rw [q5, q4, m4, show x % 4800 % 240 = x % 240 by omega, show x % 240 % 12 = x % 12 by omega, show x % 12 / 1 = x % 12 by omega]
    rw [ha, hb, hc, hd, show x / 4800 = (a : Int) by omega, show x % 4800 / 240 = (b : Int) by omega, show x % 240 / 12 = (c : Int) by omega]
    simp [run]
  rw [e]
  have i0 : Inv [] 3 0 := ⟨rfl, by simp, by omega, by omega, by omega, by simp⟩
  have i1 := inv_run 3 (by omega) a [] 0 i0 (by simp; omega) (by show (0 : Int) + a * 7 ≤ 201; omega)
  have i2 := inv_run 2 (by omega) b _ _ (inv_mono (k2 := 2) i1 (by omega) (by omega)) (by rw [List.length_append, run_len]; simp; omega) (by show (0 : Int) + a * 7 + b * 5 ≤ 201; omega)
  have i3 := inv_run 1 (by omega) c _ _ (inv_mono (k2 := 1) i2 (by omega) (by omega)) (by simp only [List.length_append, run_len]; simp; omega) (by show (0 : Int) + a * 7 + b * 5 + c * 3 ≤ 201; omega)
  have i4 := inv_run 0 (by omega) d _ _ (inv_mono (k2 := 0) i3 (by omega) (by omega)) (by simp only [List.length_append, run_len]; simp; omega) (by show (0 : Int) + a * 7 + b * 5 + c * 3 + d * 2 ≤ 201; omega)
  have h := i4.1
  rw [← h]
  congr 1
  simp only [List.nil_append, List.append_assoc]
  have e3 : wd 3 + 1 = 7 := rfl
  have e2 : wd 2 + 1 = 5 := rfl
  have e1 : wd 1 + 1 = 3 := rfl
  simp [e3, e2, e1]
theorem rd_wd {k : Int} (h0 : 0 ≤ k) (h1 : k ≤ 5) : rd ([1, 2, 4, 6, 9, 12] : List Int) k = wd k := rfl
theorem runH {c : List Int} (h : byteL c) (s : Bool) (g : G) : ∀ (n : Nat) (kind at_ i st : Int) (l : List T), n ≤ 8 → l.length + n ≤ 8 → 0 ≤ i → i + 3 * n ≤ 1000 → Inv l kind at_ → at_ ≤ 100000 →
    ∃ r i2 s2, Ev (fun k => spec_l01Drawn.l1 k kind at_ (n : Int) c i st s l g) (s, r, g, i2, s2) ∧ validN r = true ∧ ∀ z ∈ r, wfT z
  | 0, kind, at_, i, st, l, _, _, _, _, hI, _ => by
    refine ⟨l, i, st, Ev.step (fun k => by simp only [spec_l01Drawn.l1]; rfl) (ev_neg (by omega) (Ev.now _)), hI.1, hI.2.1⟩
  | n + 1, kind, at_, i, st, l, hn, hl, hi, hi2, hI, hat => by
    obtain ⟨hv, hwf, h0, h1, h2, hlast⟩ := hI
    have hwd := wd_bd kind
    have ew : wrap64 (at_ + wd kind) = at_ + wd kind := wrap_id (by omega) (by omega)
    by_cases hb : at_ + wd kind > 200
    · refine ⟨l, i, st, Ev.step (fun k => by simp only [spec_l01Drawn.l1]; rfl) (ev_pos (by omega) (ev_bind0 (show spec_l01Widths.f = some ([1, 2, 4, 6, 9, 12] : List Int) from rfl) (ev_pos h0 (ev_pos (show kind < 6 by omega) ?_)))), hv, hwf⟩
      rw [rd_wd h0 h1, ew]
      exact ev_pos hb (Ev.now _)
    · obtain ⟨x4, i4, s4, e4, hx4, hx4b, hi4, hi4b⟩ := pick_f h i st 4 hi (by omega) (by omega) (by omega)
      obtain ⟨b3, i3, s3, e3, hi3, hi3b⟩ := one_f h i4 s4 3 (by omega) (by omega) (by omega) (by omega)
      have ew2 : wrap64 (wd kind + 1) = wd kind + 1 := wrap_id (by omega) (by omega)
      have ew3 : wrap64 (wd kind + 1 + x4) = wd kind + 1 + x4 := wrap_id (by omega) (by omega)
      have ew4 : wrap64 (at_ + (wd kind + 1 + x4)) = at_ + (wd kind + 1 + x4) := wrap_id (by omega) (by omega)
      have ew5 : wrap64 (((n + 1 : Nat) : Int) - 1) = (n : Int) := by rw [wrap_id (by omega) (by omega)]; omega
      have ew6 : wrap64 (kind + 1) = kind + 1 := wrap_id (by omega) (by omega)
      obtain ⟨xk, ik, sk, ek, hxk, hxkb, hik, hikb⟩ := pick_f h i3 s3 (kind + 1) (by omega) (by omega) (by omega) (by omega)
      have hI' : Inv l kind at_ := ⟨hv, hwf, h0, h1, h2, hlast⟩
      cases b3 with
      | true =>
        obtain ⟨r, j, t, main, hr, hrw⟩ := runH h s g n xk (at_ + (wd kind + 1 + x4)) ik sk (l ++ [(⟨IntKind.i8.wrap kind, IntKind.i16.wrap at_⟩ : T)]) (by omega) (by simp; omega) (by omega) (by omega) (inv_add hI' (by omega) (by omega) hxk (by omega) (by omega)) (by omega)
        refine ⟨r, j, t, ?_, hr, hrw⟩
        refine Ev.step (fun k => by simp only [spec_l01Drawn.l1]; rfl) (ev_pos (by omega) (ev_bind0 (show spec_l01Widths.f = some ([1, 2, 4, 6, 9, 12] : List Int) from rfl) (ev_pos h0 (ev_pos (show kind < 6 by omega) ?_))))
        rw [rd_wd h0 h1, ew]
        refine ev_neg hb (ev_pos (by omega) (ev_bind0 rfl (ev_bind0 (show spec_l01Widths.f = some ([1, 2, 4, 6, 9, 12] : List Int) from rfl) (ev_pos (show kind < 6 by omega) (ev_bind0 e4 (ev_bind0 e3 (ev_pos rfl ?_)))))))
        rw [rd_wd h0 h1, ew2, ew3, ew4, ew5, ew6]
        exact ev_bind0 ek main
      | false =>
        obtain ⟨r, j, t, main, hr, hrw⟩ := runH h s g n kind (at_ + (wd kind + 1 + x4)) i3 s3 (l ++ [(⟨IntKind.i8.wrap kind, IntKind.i16.wrap at_⟩ : T)]) (by omega) (by simp; omega) (by omega) (by omega) (inv_add hI' (by omega) (by omega) h0 (by omega) (by omega)) (by omega)
        refine ⟨r, j, t, ?_, hr, hrw⟩
        refine Ev.step (fun k => by simp only [spec_l01Drawn.l1]; rfl) (ev_pos (by omega) (ev_bind0 (show spec_l01Widths.f = some ([1, 2, 4, 6, 9, 12] : List Int) from rfl) (ev_pos h0 (ev_pos (show kind < 6 by omega) ?_))))
        rw [rd_wd h0 h1, ew]
        refine ev_neg hb (ev_pos (by omega) (ev_bind0 rfl (ev_bind0 (show spec_l01Widths.f = some ([1, 2, 4, 6, 9, 12] : List Int) from rfl) (ev_pos (show kind < 6 by omega) (ev_bind0 e4 (ev_bind0 e3 (ev_neg (by simp) ?_)))))))
        rw [rd_wd h0 h1, ew2, ew3, ew4, ew5]
        exact main
theorem nT_any (k a : Int) : wfT (nT k a) := by
  have h8 : -128 ≤ IntKind.i8.wrap k ∧ IntKind.i8.wrap k ≤ 127 := by
    simp only [IntKind.wrap, IntKind.bits, IntKind.signed]; simp; omega
  have h16 : -32768 ≤ IntKind.i16.wrap a ∧ IntKind.i16.wrap a ≤ 32767 := by
    simp only [IntKind.wrap, IntKind.bits, IntKind.signed]; simp; omega
  exact ⟨h8, h16⟩
theorem run_wfT (k : Int) : ∀ (c : Nat) (a : Int), ∀ n ∈ run k a c, wfT n
  | 0, a, n, h => by simp [run] at h
  | c + 1, a, n, h => by
    simp only [run, List.mem_cons] at h
    rcases h with rfl | h
    · exact nT_any k a
    · exact run_wfT k c _ n h
theorem gre_wfT : ∀ (m : Nat) (x a : Int), ∀ n ∈ gre m x a, wfT n
  | 0, x, a, n, h => by simp [gre] at h
  | m + 1, x, a, n, h => by
    simp only [gre, List.mem_append] at h
    rcases h with h | h
    · exact run_wfT _ _ _ n h
    · exact gre_wfT m _ _ n h
theorem drawnH {c : List Int} (h : byteL c) (s : Bool) : ∀ (d i : Nat) (p st : Int) (g : G), i + d = 16 → 0 ≤ p → p + d ≤ 100 → (∀ q, q < i → -3 ≤ gv g q ∧ gv g q ≤ 3) →
    ∃ r g2 i2 s2, Ev (fun k => spec_l01Drawn.l0 k (i : Int) c p st s g) (s, r, g2, i2, s2) ∧ validN r = true ∧ (∀ z ∈ r, wfT z) ∧ okG g2 = true
  | 0, i, p, st, g, hi, hp, hp2, hg => by
    have hok : okG g = true := (okG_iff g).2 (fun q hq => hg q (by omega))
    obtain ⟨b, i1, s1, e1, h1, h1b⟩ := one_f h p st 2 hp (by omega) (by omega) (by omega)
    cases b with
    | true =>
      obtain ⟨x, i2, s2, e2, hx, hx2, h2⟩ := pick2_f h i1 s1 6000 (by omega) (by omega) (by omega)
      obtain ⟨r, er, hr⟩ := forS_out 6 (by omega) x 0 [] ⟨hx, by omega, by omega, by omega, by simp, by simp⟩
      have hv := gre_ok hx hx2
      rw [List.nil_append] at hr
      have hr1 : r.1 = gre 6 x 0 := hr.2 (by rw [hr.1]; exact hv)
      refine ⟨r.1, g, i2, s2, ?_, by rw [hr1]; exact hv, by rw [hr1]; exact gre_wfT 6 x 0, hok⟩
      refine Ev.step (fun k => by simp only [spec_l01Drawn.l0]; rfl) (ev_neg (by omega) (ev_bind0 e1 (ev_pos rfl (ev_bind0 e2 ?_))))
      refine Ev.bind (a := r) ?_ (Ev.now _)
      unfold spec_l01For.f
      exact er
    | false =>
      obtain ⟨x, i2, s2, e2, hx, hx2, h2, h2b⟩ := pick_f h i1 s1 6 (by omega) (by omega) (by omega) (by omega)
      obtain ⟨y, i3, s3, e3, hy, hy2, h3, h3b⟩ := pick_f h i2 s2 6 (by omega) (by omega) (by omega) (by omega)
      obtain ⟨n, i4, s4, e4, hn, hn2, h4, h4b⟩ := pick_f h i3 s3 9 (by omega) (by omega) (by omega) (by omega)
      obtain ⟨r, j, t, main, hr, hrw⟩ := runH h s g n.toNat x y i4 s4 [] (by omega) (by simp; omega) (by omega) (by omega) ⟨rfl, by simp, hx, by omega, hy, by simp⟩ (by omega)
      rw [show ((n.toNat : Nat) : Int) = n by omega] at main
      refine ⟨r, g, j, t, ?_, hr, hrw, hok⟩
      exact Ev.step (fun k => by simp only [spec_l01Drawn.l0]; rfl) (ev_neg (by omega) (ev_bind0 e1 (ev_neg Bool.false_ne_true (ev_bind0 e2 (ev_bind0 e3 (ev_bind0 e4 main))))))
  | d + 1, i, p, st, g, hi, hp, hp2, hg => by
    obtain ⟨x, i2, s2, e2, hx, hx2, h2, h2b⟩ := pick_f h p st 7 hp (by omega) (by omega) (by omega)
    have ew : IntKind.i8.wrap (wrap64 (x - 3)) = x - 3 := by rw [wrap_id (by omega) (by omega), i8_id (by omega) (by omega)]
    obtain ⟨r, g2, j, t, main, hr⟩ := drawnH h s d (i + 1) i2 s2 (Arr.vst g (i : Int) (x - 3)) (by omega) (by omega) (by omega) (fun q hq => by
      rw [gv_set g i q _ (by omega)]
      by_cases e : q = i
      · rw [if_pos e]; omega
      · rw [if_neg e]; exact hg q (by omega))
    refine ⟨r, g2, j, t, ?_, hr⟩
    refine Ev.step (fun k => by simp only [spec_l01Drawn.l0]; rfl) (ev_pos (by omega) (ev_bind0 e2 (ev_pos (show 0 ≤ (i : Int) by omega) ?_)))
    rw [ew, wrap_up (n := 16) (by omega) (by omega), show (i : Int) + 1 = ((i + 1 : Nat) : Int) by omega]
    exact main
theorem half_ev {c : List Int} (h : byteL c) : ∃ s l g, Ev (fun k => spec_A2Half.f k c) (s, l, g) ∧ validH l g = true ∧ ∀ z ∈ l, wfT z := by
  unfold spec_A2Half.f
  obtain ⟨b, i1, s1, e1, h1, h1b⟩ := one_f h 0 0 2 (by omega) (by omega) (by omega) (by omega)
  obtain ⟨r, g2, j, t, main, hr, hw, hg⟩ := drawnH h b 16 0 i1 s1 (Vector.replicate 16 0 : Vector Int 16) (by omega) (by omega) (by omega) (fun q hq => by omega)
  refine ⟨b, r, g2, ev_bind0 (a := (c, 0, 0)) rfl (Ev.bind (a := (b, r, g2, j, t)) ?_ (Ev.now _)), by unfold validH; rw [hr, hg]; rfl, hw⟩
  unfold spec_l01Drawn.f
  exact ev_bind0 e1 main
end Go.Proofs.YtcblnnfodpglaaaGreatDoor.PuDrawHNotched
-- a text of this session, cut down for this claim
namespace Go.Proofs.YtcblnnfodpglaaaGreatDoor.PuHasNotched
open Go.RowKit Go.Proofs.YtcblnnfodpglaaaGreatDoor.MNotched Go.Proofs.YtcblnnfodpglaaaGreatDoorW.PrintWords Go.Proofs.YtcblnnfodpglaaaGreatDoorW.PrintLast Go.Proofs.YtcblnnfodpglaaaGreatDoor.Evs
set_option linter.unusedVariables false
set_option linter.unusedSimpArgs false
theorem has_ev (l : List Int) (x : Int) (hl : l.length ≤ 1000000) : Ev (fun k => spec_A2Has.f k l x) (decide (x ∈ l)) := by
  unfold spec_A2Has.f
  have key : ∀ i : Nat, i ≤ l.length → Ev (fun k => spec_A2Has.l0 k l x (i : Int)) (decide (x ∈ l.drop i)) := by
    intro i hi
    obtain ⟨d, hd⟩ : ∃ d, l.length - i = d := ⟨_, rfl⟩
    induction d generalizing i with
    | zero =>
      refine Ev.step (fun k => by simp only [spec_A2Has.l0]; rfl) (ev_neg (by omega) (ev_eq (Ev.now _) ?_))
      rw [List.drop_of_length_le (by omega)]; simp
    | succ d ih =>
      have hlt : i < l.length := by omega
      have h2 := ih (i + 1) (by omega) (by omega)
      refine Ev.step (fun k => by simp only [spec_A2Has.l0]; rfl) (ev_pos (by omega) (ev_pos (show 0 ≤ (i : Int) by omega) ?_))
      rw [show rd l (i : Int) = l[i] from getD_lt l _ i hlt, wrap_up hlt (by omega), List.drop_eq_getElem_cons hlt]
      by_cases h : l[i] = x
      · exact ev_pos h (ev_eq (Ev.now _) (by simp [h]))
      · have hne : ¬ x = l[i] := fun e => h e.symm
        exact ev_neg h (ev_eq h2 (decide_eq_decide.2 ⟨fun z => List.mem_cons_of_mem _ z, fun z => (List.mem_cons.1 z).resolve_left hne⟩))
  have := key 0 (by omega)
  simpa using this
end Go.Proofs.YtcblnnfodpglaaaGreatDoor.PuHasNotched
-- a text of this session, cut down for this claim
namespace Go.Proofs.YtcblnnfodpglaaaGreatDoor.PuSameRNotched
open Go.RowKit Go.Proofs.YtcblnnfodpglaaaGreatDoor.MNotched Go.Proofs.YtcblnnfodpglaaaGreatDoorW.PrintWords Go.Proofs.YtcblnnfodpglaaaGreatDoorW.PrintLast Go.Proofs.YtcblnnfodpglaaaGreatDoor.Evs
set_option linter.unusedVariables false
set_option linter.unusedSimpArgs false
theorem same_refl (a : List Int) (h : a.length ≤ maxLen) : Ev (fun k => spec_A2Same.f k a a) true := by
  unfold spec_A2Same.f
  refine Ev.bind (a := true) ?_ (Ev.now _)
  unfold spec_l00Same.f
  unfold maxLen at h
  refine ev_pos rfl ?_
  have key := fun (i : Nat) (hi : i ≤ a.length) => ev_for (n := a.length) (G := fun k (_ : Unit) i => spec_l00Same.l0 k a a i) (F := fun _ i => true) (fun i hi ih _ => by
    refine ev_eq (Ev.step (fun k => ?_) (ih ())) rfl
    simp only [spec_l00Same.l0]
    rw [if_pos (by omega), if_pos (by omega), if_pos (by omega), if_pos trivial, wrap_up hi (by omega)]) (fun _ => by
    refine ev_eq (Ev.step (f := fun _ => some true) (fun k => ?_) (Ev.now _)) rfl
    simp only [spec_l00Same.l0]
    rw [if_neg (by omega)]) i hi ()
  simpa using key 0 (by omega)
end Go.Proofs.YtcblnnfodpglaaaGreatDoor.PuSameRNotched
