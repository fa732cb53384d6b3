/- Grains: arrays of sixteen whole numbers. -/
import Derived.Test.YtcblnnfodpglaaaMRoomForx0
import Derived.Test.YtcblnnfodpglaaaMRoomForx1
import Derived.Test.YtcblnnfodpglaaaMRoomForx2
import Derived.Test.YtcblnnfodpglaaaMRoomForx4
import Derived.Test.YtcblnnfodpglaaaVRoomForEv
import Derived.Test.YtcblnnfodpglaaaVRoomForArr
namespace Go.Proofs.Ytcblnnfodpglaaa.PuGrainRoomFor
open Go.RowKit Go.Proofs.Ytcblnnfodpglaaa.MRoomFor Go.Proofs.YtcblnnfodpglaaaW.PrintWords Go.Proofs.YtcblnnfodpglaaaW.PrintLast Go.Proofs.Ytcblnnfodpglaaa.Evs
set_option linter.unusedVariables false
set_option linter.unusedSimpArgs false

abbrev G := Vector Int 16
def gv (x : G) (i : Nat) : Int := x.toList.getD i 0
theorem vrd_n (x : G) (i : Nat) : Arr.vrd x (i : Int) = gv x i := by
  unfold Arr.vrd gv
  rw [Int.toNat_natCast]
theorem gv_set (x : G) (i q : Nat) (y : Int) (hi : i < 16) : gv (Arr.vst x (i : Int) y) q = if q = i then y else gv x q := by
  unfold Arr.vst gv
  rw [Vector.toList_setIfInBounds, Int.toNat_natCast, List.getD_eq_getElem?_getD, List.getD_eq_getElem?_getD, List.getElem?_set]
  by_cases h : i = q
  · subst h
    simp [hi]
  · rw [if_neg h, if_neg (fun e => h e.symm)]
theorem gv_ext (x y : G) (h : ∀ i, i < 16 → gv x i = gv y i) : x = y := Arr.ext_getD x y h
theorem gv_zero (i : Nat) : gv (Vector.replicate 16 0 : Vector Int 16) i = 0 := by
  unfold gv
  rw [List.getD_eq_getElem?_getD]
  simp only [Vector.toList_replicate, List.getElem?_replicate]
  split <;> rfl
theorem wrap_up16 {i : Nat} (h : i < 16) : wrap64 ((i : Int) + 1) = (i : Int) + 1 := wrap_up h (by omega)
def allFrom (p : Nat → Bool) (i : Nat) : Bool := (List.range' i (16 - i)).all p
theorem allFrom_step (p : Nat → Bool) (i : Nat) (h : i < 16) : allFrom p i = (p i && allFrom p (i + 1)) := by
  unfold allFrom
  rw [show 16 - i = (16 - (i + 1)) + 1 by omega, List.range'_succ, List.all_cons]
theorem allFrom_end (p : Nat → Bool) : allFrom p 16 = true := rfl
theorem allFrom_iff (p : Nat → Bool) (i : Nat) : allFrom p i = true ↔ ∀ q, i ≤ q → q < 16 → p q = true := by
  unfold allFrom
  rw [List.all_eq_true]
  constructor
  · intro h q h1 h2
    exact h q (by rw [List.mem_range'_1]; omega)
  · intro h q hq
    rw [List.mem_range'_1] at hq
    exact h q hq.1 (by omega)
def ok3 (x : G) (i : Nat) : Bool := decide (-3 ≤ gv x i) && decide (gv x i ≤ 3)
def okG (x : G) : Bool := allFrom (ok3 x) 0
theorem okG_iff (x : G) : okG x = true ↔ ∀ q, q < 16 → -3 ≤ gv x q ∧ gv x q ≤ 3 := by
  unfold okG
  rw [allFrom_iff]
  constructor
  · intro h q hq
    have := h q (by omega) hq
    simpa [ok3] using this
  · intro h q _ hq
    simpa [ok3] using h q hq
theorem toGrain_ev (x : G) : Ev (fun k => laws_toGrain.f k x) x := by
  unfold laws_toGrain.f
  refine ev_forI (n := 16) (G := fun k s i => laws_toGrain.l0 k i x s) (F := fun _ _ => x) (I := fun s i => ∀ q, q < i → gv s q = gv x q) (fun i hi ih s hI => ?_) (fun s hI => ?_) 0 (by omega) _ (fun q hq => by omega)
  · refine Ev.step (fun k => ?_) (ih (Arr.vst s (i : Int) (gv x i)) (fun q hq => ?_))
    · simp only [laws_toGrain.l0]
      rw [if_pos (by omega), if_pos (by omega), wrap_up16 hi, vrd_n]
    · rw [gv_set _ _ _ _ hi]
      by_cases e : q = i
      · rw [if_pos e, e]
      · rw [if_neg e]; exact hI q (by omega)
  · refine Ev.step (f := fun _ => some x) (fun k => ?_) (Ev.now _)
    simp only [laws_toGrain.l0]
    rw [if_neg (by omega), gv_ext s x hI]
theorem l01Grain_ev (x : G) : Ev (fun k => spec_l01Grain.f k x) (okG x) := by
  unfold spec_l01Grain.f okG
  refine ev_for (n := 16) (G := fun k (_ : Unit) i => spec_l01Grain.l0 k i x) (F := fun _ i => allFrom (ok3 x) i) (fun i hi ih s => ?_) (fun s => ?_) 0 (by omega) ()
  · rw [allFrom_step _ _ hi]
    by_cases h1 : gv x i < -3
    · refine ev_eq (Ev.step (f := fun _ => some false) (fun k => ?_) (Ev.now _)) ?_
      · simp only [spec_l01Grain.l0]
        rw [if_pos (by omega), if_pos (by omega), vrd_n, if_pos h1]
      · simp [ok3, h1, show ¬ (-3 ≤ gv x i) by omega]
    · by_cases h2 : gv x i > 3
      · refine ev_eq (Ev.step (f := fun _ => some false) (fun k => ?_) (Ev.now _)) ?_
        · simp only [spec_l01Grain.l0]
          rw [if_pos (by omega), if_pos (by omega), vrd_n, if_neg h1, if_pos h2]
        · simp [ok3, show ¬ (gv x i ≤ 3) by omega]
      · refine ev_eq (Ev.step (fun k => ?_) (ih ())) ?_
        · simp only [spec_l01Grain.l0]
          rw [if_pos (by omega), if_pos (by omega), vrd_n, if_neg h1, if_neg h2, wrap_up16 hi]
        · simp [ok3, show -3 ≤ gv x i by omega, show gv x i ≤ 3 by omega]
  · refine ev_eq (Ev.step (f := fun _ => some true) (fun k => ?_) (Ev.now _)) rfl
    simp only [spec_l01Grain.l0]
    rw [if_neg (by omega)]
theorem ValidGrainI_ev (x : G) : Ev (fun k => impl_ValidGrain.f k x) (okG x) := by
  unfold impl_ValidGrain.f okG
  refine ev_for (n := 16) (G := fun k (_ : Unit) i => impl_ValidGrain.l0 k i x) (F := fun _ i => allFrom (ok3 x) i) (fun i hi ih s => ?_) (fun s => ?_) 0 (by omega) ()
  · rw [allFrom_step _ _ hi]
    by_cases h1 : gv x i < -3
    · refine ev_eq (Ev.step (f := fun _ => some false) (fun k => ?_) (Ev.now _)) ?_
      · simp only [impl_ValidGrain.l0]
        rw [if_pos (by omega), if_pos (by omega), vrd_n, if_pos h1]
      · simp [ok3, h1, show ¬ (-3 ≤ gv x i) by omega]
    · by_cases h2 : gv x i > 3
      · refine ev_eq (Ev.step (f := fun _ => some false) (fun k => ?_) (Ev.now _)) ?_
        · simp only [impl_ValidGrain.l0]
          rw [if_pos (by omega), if_pos (by omega), vrd_n, if_neg h1, if_pos h2]
        · simp [ok3, show ¬ (gv x i ≤ 3) by omega]
      · refine ev_eq (Ev.step (fun k => ?_) (ih ())) ?_
        · simp only [impl_ValidGrain.l0]
          rw [if_pos (by omega), if_pos (by omega), vrd_n, if_neg h1, if_neg h2, wrap_up16 hi]
        · simp [ok3, show -3 ≤ gv x i by omega, show gv x i ≤ 3 by omega]
  · refine ev_eq (Ev.step (f := fun _ => some true) (fun k => ?_) (Ev.now _)) rfl
    simp only [impl_ValidGrain.l0]
    rw [if_neg (by omega)]
theorem eqGrain_refl (x : G) : Ev (fun k => laws_eqGrain.f k x x) true := by
  unfold laws_eqGrain.f
  refine ev_for (n := 16) (G := fun k (_ : Unit) i => laws_eqGrain.l0 k i x x) (F := fun _ _ => true) (fun i hi ih s => ?_) (fun s => ?_) 0 (by omega) ()
  · refine Ev.step (fun k => ?_) (ih ())
    simp only [laws_eqGrain.l0]
    rw [if_pos (by omega), if_pos (by omega), if_pos trivial, wrap_up16 hi]
  · refine Ev.step (f := fun _ => some true) (fun k => ?_) (Ev.now _)
    simp only [laws_eqGrain.l0]
    rw [if_neg (by omega)]
theorem i8_id {x : Int} (h0 : -128 ≤ x) (h1 : x ≤ 127) : IntKind.i8.wrap x = x := by
  simp only [IntKind.wrap, IntKind.bits, IntKind.signed]
  simp
  omega
def oppG (x : G) : G := Vector.ofFn fun i : Fin 16 => IntKind.i8.wrap (-(gv x i))
theorem gv_ofFn (f : Nat → Int) (q : Nat) (h : q < 16) : gv (Vector.ofFn fun i : Fin 16 => f i) q = f q := by
  unfold gv
  rw [List.getD_eq_getElem?_getD, Vector.toList_ofFn, List.getElem?_ofFn]
  simp [h]
theorem gv_opp (x : G) (q : Nat) (h : q < 16) : gv (oppG x) q = IntKind.i8.wrap (-(gv x q)) := gv_ofFn (fun i => IntKind.i8.wrap (-(gv x i))) q h
def next (s : Int) : Int := (((1664525 * s) % 4294967296) + 1013904223) % 4294967296
def gf : Nat → Nat → Int → G → G × Int
  | 0, _, s, g => (g, s)
  | m + 1, i, s, g => gf m (i + 1) (next s) (Arr.vst g (i : Int) (((next s / 65536) % 7) - 3))
theorem gf_step (i : Nat) (s : Int) (g : G) (h : i < 16) : gf (16 - i) i s g = gf (16 - (i + 1)) (i + 1) (next s) (Arr.vst g (i : Int) (((next s / 65536) % 7) - 3)) := by
  rw [show 16 - i = (16 - (i + 1)) + 1 by omega]; rfl
def zeroG : G := (Vector.replicate 16 0 : Vector Int 16)

end Go.Proofs.Ytcblnnfodpglaaa.PuGrainRoomFor
