/- The notches for an amount: the greatest kinds first. -/
import Derived.Test.YtcblnnfodpglaaaMSticksx0
import Derived.Test.YtcblnnfodpglaaaMSticksx2
import Derived.Test.YtcblnnfodpglaaaMSticksx3
import Derived.Test.YtcblnnfodpglaaaMSticksx4
import Derived.Test.YtcblnnfodpglaaaMSticksx6
import Derived.Test.YtcblnnfodpglaaaMSticksx7
import Derived.Test.YtcblnnfodpglaaaVSticksEv
import Derived.Test.YtcblnnfodpglaaaPuGrainSticks
import Derived.Test.YtcblnnfodpglaaaPuNotchSticks
import Derived.Test.YtcblnnfodpglaaaPuHalf1Sticks
namespace Go.Proofs.Ytcblnnfodpglaaa.PuForSticks
open Go.RowKit Go.Proofs.Ytcblnnfodpglaaa.MSticks Go.Proofs.YtcblnnfodpglaaaW.PrintWords Go.Proofs.YtcblnnfodpglaaaW.PrintLast Go.Proofs.Ytcblnnfodpglaaa.Evs Go.Proofs.Ytcblnnfodpglaaa.PuGrainSticks Go.Proofs.Ytcblnnfodpglaaa.PuNotchSticks Go.Proofs.Ytcblnnfodpglaaa.PuHalf1Sticks
set_option linter.unusedVariables false
set_option linter.unusedSimpArgs false

def nT (k at_ : Int) : T := ⟨IntKind.i8.wrap k, IntKind.i16.wrap at_⟩
def run (k : Int) : Int → Nat → List T
  | _, 0 => []
  | a, c + 1 => nT k a :: run k (a + (wd k + 1)) c
def gre : Nat → Int → Int → List T
  | 0, _, _ => []
  | m + 1, x, a => run m a (x / wo m).toNat ++ gre m (x % wo m) (a + (x / wo m) * (wd m + 1))
theorem gre_take (m : Nat) (x a : Int) (hm : m ≤ 5) (h : wo m ≤ x) : gre (m + 1) x a = nT m a :: gre (m + 1) (x - wo m) (a + (wd m + 1)) := by
  have hp := wo_pos (m : Int) (by omega) (by omega)
  have e1 : x / wo m = (x - wo m) / wo m + 1 := by
    rw [← Int.add_mul_ediv_right _ 1 (by omega : wo m ≠ 0)]; congr 1; omega
  have e2 : x % wo m = (x - wo m) % wo m := by rw [Int.sub_emod_right]
  have h0 : 0 ≤ (x - wo m) / wo m := Int.ediv_nonneg (by omega) (by omega)
  simp only [gre]
  rw [e1, e2, show ((x - wo m) / wo m + 1).toNat = ((x - wo m) / wo m).toNat + 1 by omega]
  simp only [run, List.cons_append]
  congr 2
  rw [Int.add_mul]; congr 1; omega
theorem gre_skip (m : Nat) (x a : Int) (hm : m ≤ 5) (h0 : 0 ≤ x) (h : x < wo m) : gre (m + 1) x a = gre m x a := by
  simp only [gre]
  rw [Int.ediv_eq_zero_of_lt h0 h, Int.emod_eq_of_lt h0 h]
  simp [run]
theorem valid_append_false {l r : List T} {n : T} (h : ok1 n = false) : validN (l ++ n :: r) = false := by
  cases hv : validN (l ++ n :: r) with
  | false => rfl
  | true => rw [valid_ok1 hv n (by simp)] at h; cases h
theorem i16_id {x : Int} (h0 : -32768 ≤ x) (h1 : x ≤ 32767) : IntKind.i16.wrap x = x := by
  simp only [IntKind.wrap, IntKind.bits, IntKind.signed]
  simp
  omega
theorem nT_f0 (m : Nat) (a : Int) (hm : m ≤ 5) : (nT m a).f0 = m := i8_id (by omega) (by omega)
theorem nT_wf (m : Nat) (a : Int) (hm : m ≤ 5) (h0 : 0 ≤ a) (h1 : a ≤ 32767) : wfT (nT m a) := by
  unfold wfT
  rw [nT_f0 m a hm, show (nT m a).f1 = a from i16_id (by omega) h1]
  omega
theorem nT_bad (m : Nat) (a : Int) (hm : m ≤ 5) (h0 : 200 < a) (h1 : a ≤ 32767) : ok1 (nT m a) = false := by
  refine decide_eq_false (fun h => ?_)
  have h2 := h.2.2.2
  unfold en at h2
  have := wd_bd (nT m a).f0
  rw [show (nT m a).f1 = a from i16_id (by omega) h1] at h2
  omega
theorem worthsS (m : Nat) (hm : m ≤ 5) : rd ([1, 12, 240, 4800, 24000, 240000] : List Int) (m : Int) = wo m := rfl
theorem kdN (m : Nat) (hm : m ≤ 5) : kd (m : Int) = true := decide_eq_true (by omega)
/-- the reference -/
def AnsS (L : List T) (r : List T × Bool) : Prop := r.2 = validN L ∧ (r.2 = true → r.1 = L)
def InvS (x a : Int) (out : List T) : Prop := 0 ≤ x ∧ x ≤ 9000000000000000000 ∧ 0 ≤ a ∧ a ≤ 213 ∧ 2 * (out.length : Int) ≤ a ∧ ∀ n ∈ out, wfT n
theorem forS_in (m : Nat) (hm : m ≤ 5)
    (next : ∀ (x a : Int) (out : List T), InvS x a out → ∃ r, Ev (fun k => spec_l01For.l0 k x out a ((m : Int) - 1)) r ∧ AnsS (out ++ gre m x a) r) :
    ∀ (c : Nat) (x a : Int) (out : List T), x.toNat ≤ c → InvS x a out → ∃ r, Ev (fun k => spec_l01For.l1 k x out a (m : Int) (wo m)) r ∧ AnsS (out ++ gre (m + 1) x a) r := by
  have hp := wo_pos (m : Int) (by omega) (by omega)
  have hwb := wd_bd (m : Int)
  have hwp := wd_pos (m : Int) (by omega) (by omega)
  intro c
  induction c with
  | zero =>
    intro x a out hc hI
    obtain ⟨r, hr, hA⟩ := next x a out hI
    obtain ⟨hx0, hx, ha0, ha, hl, hw⟩ := hI
    refine ⟨r, Ev.step (fun k => ?_) hr, ?_⟩
    · simp only [spec_l01For.l1]
      rw [if_neg (by omega), wrap_id (x := (m : Int) - 1) (by omega) (by omega)]
    · rw [gre_skip m x a hm hx0 (by omega)]; exact hA
  | succ c ih =>
    intro x a out hc hI
    by_cases h : wo m ≤ x
    · obtain ⟨hx0, hx, ha0, ha, hl, hw⟩ := hI
      by_cases h2 : 200 < a
      · refine ⟨(out, false), Ev.step (f := fun _ => some (out, false)) (fun k => ?_) (Ev.now _), ?_, fun z => by cases z⟩
        · simp only [spec_l01For.l1]
          rw [if_pos (by omega), if_pos (by omega)]
        · rw [gre_take m x a hm h]; exact (valid_append_false (nT_bad m a hm h2 (by omega))).symm
      · obtain ⟨r, hr, hA⟩ := ih (x - wo m) (a + (wd m + 1)) (out ++ [nT m a]) (by omega) ⟨by omega, by omega, by omega, by omega, by rw [List.length_append]; simp only [List.length_singleton]; omega, by
          intro n hn
          rcases List.mem_append.1 hn with hn | hn
          · exact hw n hn
          · rw [List.mem_singleton.1 hn]; exact nT_wf m a hm ha0 (by omega)⟩
        refine ⟨r, Ev.step (fun k => ?_) hr, ?_⟩
        · simp only [spec_l01For.l1, spec_l01Widths.f, Option.bind_some]
          rw [if_pos (by omega), if_neg (by omega), if_pos (by omega), if_pos (by omega), if_pos (by simp; omega), wrap_id (x := x - wo m) (by omega) (by omega), show rd [1, 2, 4, 6, 9, 12] (m : Int) = wd m from rfl, wrap_id (x := wd m + 1) (by omega) (by omega), wrap_id (x := a + (wd m + 1)) (by omega) (by omega)]
          rfl
        · rw [gre_take m x a hm h]
          rw [List.append_assoc] at hA; exact hA
    · obtain ⟨r, hr, hA⟩ := next x a out hI
      obtain ⟨hx0, hx, ha0, ha, hl, hw⟩ := hI
      refine ⟨r, Ev.step (fun k => ?_) hr, ?_⟩
      · simp only [spec_l01For.l1]
        rw [if_neg (by omega), wrap_id (x := (m : Int) - 1) (by omega) (by omega)]
      · rw [gre_skip m x a hm hx0 (by omega)]; exact hA
theorem forS_out : ∀ (m : Nat), m ≤ 6 → ∀ (x a : Int) (out : List T), InvS x a out → ∃ r, Ev (fun k => spec_l01For.l0 k x out a ((m : Int) - 1)) r ∧ AnsS (out ++ gre m x a) r := by
  intro m
  induction m with
  | zero =>
    intro hm x a out ⟨hx0, hx, ha0, ha, hl, hw⟩
    refine ⟨(out, validN out), Ev.step (f := fun k => (spec_l01Notches.f k out).bind fun t => some (out, t)) (fun k => ?_) (Ev.bind (notchesS_ev out (by unfold maxLen; omega) hw) (Ev.now _)), ?_⟩
    · simp only [spec_l01For.l0]
      rw [if_neg (by omega)]
    · simp only [gre, List.append_nil]; exact ⟨rfl, fun _ => rfl⟩
  | succ m ih =>
    intro hm x a out hI
    obtain ⟨r, hr, hA⟩ := forS_in m (by omega) (ih (by omega)) x.toNat x a out (Nat.le_refl _) hI
    refine ⟨r, Ev.step (fun k => ?_) hr, hA⟩
    simp only [spec_l01For.l0, spec_l01Worths.f, Option.bind_some]
    rw [if_pos (by omega), if_pos (by omega), if_pos (by simp; omega), show ((m + 1 : Nat) : Int) - 1 = (m : Int) by omega]
    rfl
def forR (x : Int) : List T × Int := if 0 ≤ x ∧ x ≤ 100000000 then (if validN (gre 6 x 0) = true then (gre 6 x 0, 0) else ([], 3)) else ([], 2)
theorem amountS (x : Int) : spec_l01Amount.f x = some (decide (0 ≤ x ∧ x ≤ 100000000)) := by
  unfold spec_l01Amount.f
  rw [l00In_f]; rfl
theorem amountI (x : Int) : impl_isAmount.f x = some (decide (0 ≤ x ∧ x ≤ 100000000)) := by
  unfold impl_isAmount.f
  by_cases h : x ≥ 0
  · rw [if_pos h]; congr 1; simp [show 0 ≤ x from h]
  · rw [if_neg h]; congr 1; simp [show ¬ 0 ≤ x from h]
theorem ForS_ev (x : Int) : Ev (fun k => spec_NotchesFor.f k x) (forR x) := by
  unfold spec_NotchesFor.f forR
  refine ev_bind0 (amountS x) ?_
  by_cases h : 0 ≤ x ∧ x ≤ 100000000
  · refine ev_ifp h (ev_pos (by simpa using h) ?_)
    obtain ⟨r, hr, hA⟩ := forS_out 6 (by omega) x 0 [] ⟨by omega, by omega, by omega, by omega, by simp, by simp⟩
    obtain ⟨r1, r2⟩ := r
    have hr' : Ev (fun k => spec_l01For.f k x) (r1, r2) := hr
    refine Ev.bind hr' ?_
    simp only [AnsS, List.nil_append] at hA
    rw [← hA.1]
    by_cases h2 : r2 = true
    · refine ev_ifp h2 (ev_pos h2 ?_)
      rw [hA.2 h2]; exact Ev.now _
    · exact ev_ifn h2 (ev_neg h2 (Ev.now _))
  · exact ev_ifn h (ev_neg (by simpa using h) (Ev.now _))
/-! the program -/
def InvI (x a : Int) (out : List T) : Prop := 0 ≤ x ∧ x ≤ 9000000000000000000 ∧ 0 ≤ a ∧ a ≤ 13 * (out.length : Int) ∧ out.length ≤ 60 ∧ ∀ n ∈ out, wfT n
def AnsI (L : List T) : List T × Int := if validN L = true then (L, 0) else ([], 3)
theorem long_bad {l r : List T} (h : 60 < l.length) : validN (l ++ r) = false := by
  cases hv : validN (l ++ r) with
  | false => rfl
  | true => have := valid_len hv; rw [List.length_append] at this; omega
theorem forI_in (m : Nat) (hm : m ≤ 5)
    (next : ∀ (x a : Int) (out : List T), InvI x a out → Ev (fun k => impl_NotchesFor.l0 k x out a ((m : Int) - 1)) (AnsI (out ++ gre m x a))) :
    ∀ (c : Nat) (x a : Int) (out : List T), x.toNat ≤ c → InvI x a out → Ev (fun k => impl_NotchesFor.l1 k x out a (m : Int)) (AnsI (out ++ gre (m + 1) x a)) := by
  have hp := wo_pos (m : Int) (by omega) (by omega)
  have hwb := wd_bd (m : Int)
  have hwp := wd_pos (m : Int) (by omega) (by omega)
  have skip : ∀ (x a : Int) (out : List T), x < wo m → InvI x a out → Ev (fun k => impl_NotchesFor.l1 k x out a (m : Int)) (AnsI (out ++ gre (m + 1) x a)) := by
    intro x a out hlt hI
    have hr := next x a out hI
    obtain ⟨hx0, hx, ha0, ha, hl, hw⟩ := hI
    rw [gre_skip m x a hm hx0 hlt]
    refine Ev.step (fun k => ?_) hr
    simp only [impl_NotchesFor.l1]
    rw [worthI (kdN m hm)]
    simp only [Option.bind_some]
    rw [if_neg (by omega), wrap_id (x := (m : Int) - 1) (by omega) (by omega)]
  intro c
  induction c with
  | zero =>
    intro x a out hc hI
    exact skip x a out (by have := hI.1; omega) hI
  | succ c ih =>
    intro x a out hc hI
    by_cases h : wo m ≤ x
    · obtain ⟨hx0, hx, ha0, ha, hl, hw⟩ := hI
      rw [gre_take m x a hm h]
      have hlen : (out ++ [nT m a]).length = out.length + 1 := by simp
      by_cases h2 : 60 ≤ out.length
      · have hb : validN (out ++ nT m a :: gre (m + 1) (x - wo m) (a + (wd m + 1))) = false := by
          have := long_bad (l := out ++ [nT m a]) (r := gre (m + 1) (x - wo m) (a + (wd m + 1))) (by rw [hlen]; omega)
          rwa [List.append_assoc] at this
        unfold AnsI
        rw [hb]
        refine ev_ifn (by simp) (Ev.step (f := fun _ => some ([], 3)) (fun k => ?_) (Ev.now _))
        simp only [impl_NotchesFor.l1]
        rw [worthI (kdN m hm), widthI (kdN m hm)]
        simp only [Option.bind_some]
        rw [if_pos (by omega), if_pos (by omega)]
        exact if_pos (by show ((out ++ [nT m a]).length : Int) > 60; rw [hlen]; omega)
      · have hr := ih (x - wo m) (a + (wd m + 1)) (out ++ [nT m a]) (by omega) ⟨by omega, by omega, by omega, by rw [hlen]; omega, by rw [hlen]; omega, by
          intro n hn
          rcases List.mem_append.1 hn with hn | hn
          · exact hw n hn
          · rw [List.mem_singleton.1 hn]; exact nT_wf m a hm ha0 (by omega)⟩
        rw [List.append_assoc] at hr
        refine Ev.step (fun k => ?_) hr
        simp only [impl_NotchesFor.l1]
        rw [worthI (kdN m hm), widthI (kdN m hm)]
        simp only [Option.bind_some]
        rw [if_pos (by omega), if_pos (by omega), wrap_id (x := x - wo m) (by omega) (by omega), wrap_id (x := wd m + 1) (by omega) (by omega), wrap_id (x := a + (wd m + 1)) (by omega) (by omega)]
        exact if_neg (by show ¬ ((out ++ [nT m a]).length : Int) > 60; rw [hlen]; omega)
    · exact skip x a out (by omega) hI
theorem okG_zero : okG (Vector.replicate 16 0 : Vector Int 16) = true := by
  rw [okG_iff]
  intro q hq
  rw [gv_zero]; omega
theorem forI_out : ∀ (m : Nat), m ≤ 6 → ∀ (x a : Int) (out : List T), InvI x a out → Ev (fun k => impl_NotchesFor.l0 k x out a ((m : Int) - 1)) (AnsI (out ++ gre m x a)) := by
  intro m
  induction m with
  | zero =>
    intro hm x a out ⟨hx0, hx, ha0, ha, hl, hw⟩
    simp only [gre, List.append_nil]
    refine Ev.step (f := fun k => (impl_ValidHalf.f k false out (Vector.replicate 16 0 : Vector Int 16)).bind fun t => if t = true then some (out, 0) else some (([] : List T), 3)) (fun k => ?_) (Ev.bind (ValidHalfI_ev false out _ (by unfold maxLen; omega) hw) ?_)
    · simp only [impl_NotchesFor.l0]
      rw [if_neg (by omega)]
    · have e : validH out (Vector.replicate 16 0 : Vector Int 16) = validN out := by
        unfold validH; rw [okG_zero, Bool.and_true]
      rw [e]
      unfold AnsI
      by_cases h2 : validN out = true
      · exact ev_ifp h2 (ev_pos h2 (Ev.now _))
      · exact ev_ifn h2 (ev_neg h2 (Ev.now _))
  | succ m ih =>
    intro hm x a out hI
    refine Ev.step (fun k => ?_) (forI_in m (by omega) (ih (by omega)) x.toNat x a out (Nat.le_refl _) hI)
    simp only [impl_NotchesFor.l0]
    rw [if_pos (by omega), show ((m + 1 : Nat) : Int) - 1 = (m : Int) by omega]
theorem ForI_ev (x : Int) : Ev (fun k => impl_NotchesFor.f k x) (forR x) := by
  unfold impl_NotchesFor.f forR
  refine ev_bind0 (amountI x) ?_
  by_cases h : 0 ≤ x ∧ x ≤ 100000000
  · exact ev_ifp h (ev_pos (by simpa using h) (forI_out 6 (by omega) x 0 [] ⟨by omega, by omega, by omega, by simp, by simp, by simp⟩))
  · exact ev_ifn h (ev_neg (by simpa using h) (Ev.now _))
theorem forR_len (x : Int) : (forR x).1.length ≤ 60 := by
  unfold forR
  split
  · split
    · exact valid_len (by assumption)
    · simp
  · simp
end Go.Proofs.Ytcblnnfodpglaaa.PuForSticks
