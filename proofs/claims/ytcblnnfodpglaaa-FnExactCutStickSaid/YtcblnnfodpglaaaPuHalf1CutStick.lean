/- What is told of one half: where it ends, what it is worth, how many notches are of a kind. -/
import Derived.Test.YtcblnnfodpglaaaMCutStickx0
import Derived.Test.YtcblnnfodpglaaaMCutStickx6
import Derived.Test.YtcblnnfodpglaaaVCutStickEv
import Derived.Test.YtcblnnfodpglaaaPuGrainCutStick
import Derived.Test.YtcblnnfodpglaaaPuNotchCutStick
namespace Go.Proofs.Ytcblnnfodpglaaa.PuHalf1CutStick
open Go.RowKit Go.Proofs.Ytcblnnfodpglaaa.MCutStick Go.Proofs.YtcblnnfodpglaaaW.PrintWords Go.Proofs.YtcblnnfodpglaaaW.PrintLast Go.Proofs.Ytcblnnfodpglaaa.Evs Go.Proofs.Ytcblnnfodpglaaa.PuGrainCutStick Go.Proofs.Ytcblnnfodpglaaa.PuNotchCutStick
set_option linter.unusedVariables false
set_option linter.unusedSimpArgs false

def lastE (l : List T) : Int := if h : l.length = 0 then 0 else en (l[l.length - 1]'(by omega))
def endR (l : List T) (g : G) : Int × Int := if validH l g = true then (lastE l, 0) else (0, 1)
def wo (k : Int) : Int := ([1, 12, 240, 4800, 24000, 240000] : List Int).getD k.toNat 0
theorem wo_bd (k : Int) : 0 ≤ wo k ∧ wo k ≤ 240000 := by
  unfold wo
  generalize k.toNat = m
  match m with
  | 0 => decide
  | 1 => decide
  | 2 => decide
  | 3 => decide
  | 4 => decide
  | 5 => decide
  | m + 6 => simp
theorem wo_pos (k : Int) (h0 : 0 ≤ k) (h1 : k ≤ 5) : 1 ≤ wo k := by
  unfold wo
  have : k.toNat ≤ 5 := by omega
  generalize k.toNat = m at this
  match m, this with
  | 0, _ => decide
  | 1, _ => decide
  | 2, _ => decide
  | 3, _ => decide
  | 4, _ => decide
  | 5, _ => decide
  | m + 6, h => omega
def sumN (l : List T) : Int := (l.map fun n => wo n.f0).sum
theorem sumN_drop (l : List T) (i : Nat) (h : i < l.length) : sumN (l.drop i) = wo l[i].f0 + sumN (l.drop (i + 1)) := by
  rw [List.drop_eq_getElem_cons h]; rfl
theorem worthI {k : Int} (h : kd k = true) : impl_worth.f k = some (wo k) := by
  have h := of_decide_eq_true h
  unfold impl_worth.f
  simp only [Option.bind_some]
  rw [if_pos h.1, if_pos (by simp; omega)]; rfl
def amtR (l : List T) (g : G) : Int × Int := if validH l g = true then (sumN l, 0) else (0, 1)
def countN (q : Int) (l : List T) : Int := ((l.countP fun n => decide (n.f0 = q) : Nat) : Int)
theorem countN_drop (q : Int) (l : List T) (i : Nat) (h : i < l.length) : countN q (l.drop i) = (if l[i].f0 = q then 1 else 0) + countN q (l.drop (i + 1)) := by
  unfold countN
  rw [List.drop_eq_getElem_cons h, List.countP_cons]
  by_cases e : l[i].f0 = q
  · simp [e]; omega
  · simp [e]
def cntR (q : Int) (l : List T) (g : G) : Int × Int := if validH l g = true then (if kd q = true then (countN q l, 0) else (0, 2)) else (0, 1)

end Go.Proofs.Ytcblnnfodpglaaa.PuHalf1CutStick
