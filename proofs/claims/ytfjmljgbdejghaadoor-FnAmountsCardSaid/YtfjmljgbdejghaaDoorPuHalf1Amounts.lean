/- What is told of one half: where it ends, what it is worth, how many notches are of a kind. -/
import Derived.Test.YtfjmljgbdejghaaDoorMAmountsx0
import Derived.Test.YtfjmljgbdejghaaDoorMAmountsx2
import Derived.Test.YtfjmljgbdejghaaDoorMAmountsx7
import Derived.Test.YtfjmljgbdejghaaDoorEv
import Derived.Test.YtfjmljgbdejghaaDoorPuGrainAmounts
import Derived.Test.YtfjmljgbdejghaaDoorPuNotchAmounts
namespace Go.Proofs.YtfjmljgbdejghaaDoor.PuHalf1Amounts
open Go.RowKit Go.Proofs.YtfjmljgbdejghaaDoor.MAmounts Go.Proofs.YtfjmljgbdejghaaDoorW.PrintWords Go.Proofs.YtfjmljgbdejghaaDoorW.PrintLast Go.Proofs.YtfjmljgbdejghaaDoor.Evs Go.Proofs.YtfjmljgbdejghaaDoor.PuGrainAmounts Go.Proofs.YtfjmljgbdejghaaDoor.PuNotchAmounts
set_option linter.unusedVariables false
set_option linter.unusedSimpArgs false

def lastE (l : List T) : Int := if h : l.length = 0 then 0 else en (l[l.length - 1]'(by omega))
def endR (l : List T) (g : G) : Int × Int := if validH l g = true then (lastE l, 0) else (0, 1)
def wo (k : Int) : Int := ([1, 12, 240, 4800, 24000, 240000] : List Int).getD k.toNat 0
theorem wo_bd (k : Int) : 0 ≤ wo k ∧ wo k ≤ 240000 := by
  unfold wo
  generalize k.toNat = m
  match m with
  | 0 => decide
  | 1 => decide
  | 2 => decide
  | 3 => decide
  | 4 => decide
  | 5 => decide
  | m + 6 => simp
theorem wo_pos (k : Int) (h0 : 0 ≤ k) (h1 : k ≤ 5) : 1 ≤ wo k := by
  unfold wo
  have : k.toNat ≤ 5 := by omega
  generalize k.toNat = m at this
  match m, this with
  | 0, _ => decide
  | 1, _ => decide
  | 2, _ => decide
  | 3, _ => decide
  | 4, _ => decide
  | 5, _ => decide
  | m + 6, h => omega
def sumN (l : List T) : Int := (l.map fun n => wo n.f0).sum
theorem sumN_drop (l : List T) (i : Nat) (h : i < l.length) : sumN (l.drop i) = wo l[i].f0 + sumN (l.drop (i + 1)) := by
  rw [List.drop_eq_getElem_cons h]; rfl
theorem worthI {k : Int} (h : kd k = true) : impl_worth.f k = some (wo k) := by
  have h := of_decide_eq_true h
  unfold impl_worth.f
  simp only [Option.bind_some]
  rw [if_pos h.1, if_pos (by simp; omega)]; rfl
def amtR (l : List T) (g : G) : Int × Int := if validH l g = true then (sumN l, 0) else (0, 1)
def countN (q : Int) (l : List T) : Int := ((l.countP fun n => decide (n.f0 = q) : Nat) : Int)
theorem countN_drop (q : Int) (l : List T) (i : Nat) (h : i < l.length) : countN q (l.drop i) = (if l[i].f0 = q then 1 else 0) + countN q (l.drop (i + 1)) := by
  unfold countN
  rw [List.drop_eq_getElem_cons h, List.countP_cons]
  by_cases e : l[i].f0 = q
  · simp [e]; omega
  · simp [e]
def cntR (q : Int) (l : List T) (g : G) : Int × Int := if validH l g = true then (if kd q = true then (countN q l, 0) else (0, 2)) else (0, 1)
theorem CountI_ev (s0 : Bool) (l : List T) (g : G) (q : Int) (hl : l.length ≤ maxLen) (hw : ∀ n ∈ l, wfT n) : Ev (fun k => impl_CountKind.f k s0 l g q) (cntR q l g) := by
  unfold impl_CountKind.f cntR
  refine Ev.bind (ValidHalfI_ev s0 l g hl hw) ?_
  by_cases h : validH l g = true
  · refine ev_ifp h (ev_pos h (ev_bind0 (kindI q) ?_))
    by_cases h2 : kd q = true
    · refine ev_ifp h2 ?_
      have hlen := valid_len (validH_N h)
      refine ev_pos h2 ?_
      refine ev_eq (ev_forI (n := l.length) (G := fun k s i => impl_CountKind.l0 k q s l (l.length : Int) i) (F := fun s i => (s + countN q (l.drop i), (0 : Int))) (I := fun s i => 0 ≤ s ∧ s ≤ (i : Int)) (fun i hi ih s hI => ?_) (fun s hI => ?_) 0 (by omega) 0 (by simp)) (by simp)
      · have hwi := hw l[i] (List.getElem_mem hi)
        by_cases e : l[i].f0 = q
        · refine ev_eq (Ev.step (f := fun k => impl_CountKind.l0 k q (s + 1) l (l.length : Int) ((i : Int) + 1)) (fun k => ?_) (ih (s + 1) ⟨by omega, by omega⟩)) ?_
          · simp only [impl_CountKind.l0]
            rw [if_pos (by omega), if_pos (by omega), if_pos (by omega), rdT l i hi, wrap_i8 hwi, if_pos e, wrap_up hi (by omega), wrap_id (by omega) (by omega)]
          · show (s + 1 + countN q (l.drop (i + 1)), (0 : Int)) = (s + countN q (l.drop i), 0)
            rw [countN_drop q l i hi, if_pos e, Int.add_assoc]
        · refine ev_eq (Ev.step (f := fun k => impl_CountKind.l0 k q s l (l.length : Int) ((i : Int) + 1)) (fun k => ?_) (ih s ⟨by omega, by omega⟩)) ?_
          · simp only [impl_CountKind.l0]
            rw [if_pos (by omega), if_pos (by omega), if_pos (by omega), rdT l i hi, wrap_i8 hwi, if_neg e, wrap_up hi (by omega)]
          · show (s + countN q (l.drop (i + 1)), (0 : Int)) = (s + countN q (l.drop i), 0)
            rw [countN_drop q l i hi, if_neg e, Int.zero_add]
      · refine ev_eq (Ev.step (f := fun _ => some (s, 0)) (fun k => ?_) (Ev.now _)) ?_
        · simp only [impl_CountKind.l0]; rw [if_neg (by omega)]
        · simp [countN]
    · exact ev_ifn h2 (ev_neg h2 (Ev.now _))
  · exact ev_ifn h (ev_neg h (Ev.now _))
end Go.Proofs.YtfjmljgbdejghaaDoor.PuHalf1Amounts
