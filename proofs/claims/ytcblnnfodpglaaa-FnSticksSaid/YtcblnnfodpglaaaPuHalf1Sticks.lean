/- What is told of one half: where it ends, what it is worth, how many notches are of a kind. -/
import Derived.Test.YtcblnnfodpglaaaMSticksx0
import Derived.Test.YtcblnnfodpglaaaMSticksx10
import Derived.Test.YtcblnnfodpglaaaMSticksx7
import Derived.Test.YtcblnnfodpglaaaVSticksEv
import Derived.Test.YtcblnnfodpglaaaPuGrainSticks
import Derived.Test.YtcblnnfodpglaaaPuNotchSticks
namespace Go.Proofs.Ytcblnnfodpglaaa.PuHalf1Sticks
open Go.RowKit Go.Proofs.Ytcblnnfodpglaaa.MSticks Go.Proofs.YtcblnnfodpglaaaW.PrintWords Go.Proofs.YtcblnnfodpglaaaW.PrintLast Go.Proofs.Ytcblnnfodpglaaa.Evs Go.Proofs.Ytcblnnfodpglaaa.PuGrainSticks Go.Proofs.Ytcblnnfodpglaaa.PuNotchSticks
set_option linter.unusedVariables false
set_option linter.unusedSimpArgs false

def lastE (l : List T) : Int := if h : l.length = 0 then 0 else en (l[l.length - 1]'(by omega))
def endR (l : List T) (g : G) : Int × Int := if validH l g = true then (lastE l, 0) else (0, 1)
def wo (k : Int) : Int := ([1, 12, 240, 4800, 24000, 240000] : List Int).getD k.toNat 0
theorem wo_bd (k : Int) : 0 ≤ wo k ∧ wo k ≤ 240000 := by
  unfold wo
  generalize k.toNat = m
  match m with
  | 0 => decide
  | 1 => decide
  | 2 => decide
  | 3 => decide
  | 4 => decide
  | 5 => decide
  | m + 6 => simp
theorem wo_pos (k : Int) (h0 : 0 ≤ k) (h1 : k ≤ 5) : 1 ≤ wo k := by
  unfold wo
  have : k.toNat ≤ 5 := by omega
  generalize k.toNat = m at this
  match m, this with
  | 0, _ => decide
  | 1, _ => decide
  | 2, _ => decide
  | 3, _ => decide
  | 4, _ => decide
  | 5, _ => decide
  | m + 6, h => omega
def sumN (l : List T) : Int := (l.map fun n => wo n.f0).sum
theorem sumN_drop (l : List T) (i : Nat) (h : i < l.length) : sumN (l.drop i) = wo l[i].f0 + sumN (l.drop (i + 1)) := by
  rw [List.drop_eq_getElem_cons h]; rfl
theorem worthI {k : Int} (h : kd k = true) : impl_worth.f k = some (wo k) := by
  have h := of_decide_eq_true h
  unfold impl_worth.f
  simp only [Option.bind_some]
  rw [if_pos h.1, if_pos (by simp; omega)]; rfl
def amtR (l : List T) (g : G) : Int × Int := if validH l g = true then (sumN l, 0) else (0, 1)
theorem sumI_ev (s0 : Bool) (l : List T) (g : G) (h : validN l = true) (hw : ∀ n ∈ l, wfT n) : Ev (fun k => impl_amountOf.f k s0 l g) (sumN l) := by
  have hlen := valid_len h
  unfold impl_amountOf.f
  refine ev_eq (ev_forI (n := l.length) (G := fun k s i => impl_amountOf.l0 k s l (l.length : Int) i) (F := fun s i => s + sumN (l.drop i)) (I := fun s i => 0 ≤ s ∧ s ≤ (i : Int) * 240000) (fun i hi ih s hI => ?_) (fun s hI => ?_) 0 (by omega) 0 (by simp)) (by simp)
  · have hk := ok1_kd (valid_ok1 h l[i] (List.getElem_mem hi))
    have hb := wo_bd l[i].f0
    refine ev_eq (Ev.step (f := fun k => impl_amountOf.l0 k (s + wo l[i].f0) l (l.length : Int) ((i : Int) + 1)) (fun k => ?_) (ih (s + wo l[i].f0) ⟨by omega, by omega⟩)) ?_
    · simp only [impl_amountOf.l0]
      rw [if_pos (by omega), if_pos (by omega), if_pos (by omega), rdT l i hi, wrap_i8 (hw _ (List.getElem_mem hi)), worthI hk]
      simp only [Option.bind_some]
      rw [wrap_up hi (by omega), wrap_id (by omega) (by omega)]
    · rw [sumN_drop l i hi, Int.add_assoc]
  · refine ev_eq (Ev.step (f := fun _ => some s) (fun k => ?_) (Ev.now _)) ?_
    · simp only [impl_amountOf.l0]; rw [if_neg (by omega)]
    · simp [sumN]
theorem AmountI_ev (s : Bool) (l : List T) (g : G) (hl : l.length ≤ maxLen) (hw : ∀ n ∈ l, wfT n) : Ev (fun k => impl_AmountOf.f k s l g) (amtR l g) := by
  unfold impl_AmountOf.f amtR
  refine Ev.bind (ValidHalfI_ev s l g hl hw) ?_
  by_cases h : validH l g = true
  · refine ev_ifp h ?_
    exact ev_pos h (Ev.bind (sumI_ev s l g (validH_N h) hw) (Ev.now _))
  · exact ev_ifn h (ev_neg h (Ev.now _))
/-! how many of a kind -/
def countN (q : Int) (l : List T) : Int := ((l.countP fun n => decide (n.f0 = q) : Nat) : Int)
theorem countN_drop (q : Int) (l : List T) (i : Nat) (h : i < l.length) : countN q (l.drop i) = (if l[i].f0 = q then 1 else 0) + countN q (l.drop (i + 1)) := by
  unfold countN
  rw [List.drop_eq_getElem_cons h, List.countP_cons]
  by_cases e : l[i].f0 = q
  · simp [e]; omega
  · simp [e]
def cntR (q : Int) (l : List T) (g : G) : Int × Int := if validH l g = true then (if kd q = true then (countN q l, 0) else (0, 2)) else (0, 1)

end Go.Proofs.Ytcblnnfodpglaaa.PuHalf1Sticks
