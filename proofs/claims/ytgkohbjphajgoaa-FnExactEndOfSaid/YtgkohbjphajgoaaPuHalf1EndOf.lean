/- What is told of one half: where it ends, what it is worth, how many notches are of a kind. -/
import Derived.Test.YtgkohbjphajgoaaMEndOfx0
import Derived.Test.YtgkohbjphajgoaaMEndOfx4
import Derived.Test.YtgkohbjphajgoaaMEndOfx6
import Derived.Test.YtgkohbjphajgoaaEv
import Derived.Test.YtgkohbjphajgoaaPuGrainEndOf
import Derived.Test.YtgkohbjphajgoaaPuNotchEndOf
namespace Go.Proofs.Ytgkohbjphajgoaa.PuHalf1EndOf
open Go.RowKit Go.Proofs.Ytgkohbjphajgoaa.MEndOf Go.Proofs.YtgkohbjphajgoaaW.PrintWords Go.Proofs.YtgkohbjphajgoaaW.PrintLast Go.Proofs.Ytgkohbjphajgoaa.Evs Go.Proofs.Ytgkohbjphajgoaa.PuGrainEndOf Go.Proofs.Ytgkohbjphajgoaa.PuNotchEndOf
set_option linter.unusedVariables false
set_option linter.unusedSimpArgs false

def lastE (l : List T) : Int := if h : l.length = 0 then 0 else en (l[l.length - 1]'(by omega))
def endR (l : List T) (g : G) : Int × Int := if validH l g = true then (lastE l, 0) else (0, 1)
theorem EndS_ev (s : Bool) (l : List T) (g : G) (hl : l.length ≤ maxLen) (hw : ∀ n ∈ l, wfT n) : Ev (fun k => spec_EndOf.f k s l g) (endR l g) := by
  unfold spec_EndOf.f endR
  unfold maxLen at hl
  refine Ev.bind (okS_ev s l g hl hw) ?_
  by_cases h : validH l g = true
  · refine ev_ifp h (ev_pos h ?_)
    unfold lastE
    by_cases h0 : l.length = 0
    · rw [dif_pos h0]; exact ev_pos (by omega) (Ev.now _)
    · rw [dif_neg h0]
      have e1 : wrap64 ((l.length : Int) - 1) = ((l.length - 1 : Nat) : Int) := by rw [wrap_id (by omega) (by omega)]; omega
      have hm : l[l.length - 1]'(by omega) ∈ l := List.getElem_mem _
      refine ev_neg (by omega) ?_
      rw [e1, rdT l (l.length - 1) (by omega), endS (hw _ hm) (ok1_kd (valid_ok1 (validH_N h) _ hm))]
      exact ev_pos (by omega) (ev_pos (by omega) (Ev.now _))
  · exact ev_ifn h (ev_neg h (Ev.now _))
theorem EndI_ev (s : Bool) (l : List T) (g : G) (hl : l.length ≤ maxLen) (hw : ∀ n ∈ l, wfT n) : Ev (fun k => impl_EndOf.f k s l g) (endR l g) := by
  unfold impl_EndOf.f endR
  unfold maxLen at hl
  refine Ev.bind (ValidHalfI_ev s l g hl hw) ?_
  by_cases h : validH l g = true
  · refine ev_ifp h (ev_pos h ?_)
    unfold lastE
    by_cases h0 : l.length = 0
    · rw [dif_pos h0]; exact ev_pos (by omega) (Ev.now _)
    · rw [dif_neg h0]
      have e1 : wrap64 ((l.length : Int) - 1) = ((l.length - 1 : Nat) : Int) := by rw [wrap_id (by omega) (by omega)]; omega
      have hm : l[l.length - 1]'(by omega) ∈ l := List.getElem_mem _
      refine ev_neg (by omega) ?_
      rw [e1, rdT l (l.length - 1) (by omega), endI (hw _ hm) (ok1_kd (valid_ok1 (validH_N h) _ hm))]
      exact ev_pos (by omega) (ev_pos (by omega) (Ev.now _))
  · exact ev_ifn h (ev_neg h (Ev.now _))
/-! worth -/
def wo (k : Int) : Int := ([1, 12, 240, 4800, 24000, 240000] : List Int).getD k.toNat 0
theorem wo_bd (k : Int) : 0 ≤ wo k ∧ wo k ≤ 240000 := by
  unfold wo
  generalize k.toNat = m
  match m with
  | 0 => decide
  | 1 => decide
  | 2 => decide
  | 3 => decide
  | 4 => decide
  | 5 => decide
  | m + 6 => simp
theorem wo_pos (k : Int) (h0 : 0 ≤ k) (h1 : k ≤ 5) : 1 ≤ wo k := by
  unfold wo
  have : k.toNat ≤ 5 := by omega
  generalize k.toNat = m at this
  match m, this with
  | 0, _ => decide
  | 1, _ => decide
  | 2, _ => decide
  | 3, _ => decide
  | 4, _ => decide
  | 5, _ => decide
  | m + 6, h => omega
def sumN (l : List T) : Int := (l.map fun n => wo n.f0).sum
theorem sumN_drop (l : List T) (i : Nat) (h : i < l.length) : sumN (l.drop i) = wo l[i].f0 + sumN (l.drop (i + 1)) := by
  rw [List.drop_eq_getElem_cons h]; rfl
def amtR (l : List T) (g : G) : Int × Int := if validH l g = true then (sumN l, 0) else (0, 1)
def countN (q : Int) (l : List T) : Int := ((l.countP fun n => decide (n.f0 = q) : Nat) : Int)
theorem countN_drop (q : Int) (l : List T) (i : Nat) (h : i < l.length) : countN q (l.drop i) = (if l[i].f0 = q then 1 else 0) + countN q (l.drop (i + 1)) := by
  unfold countN
  rw [List.drop_eq_getElem_cons h, List.countP_cons]
  by_cases e : l[i].f0 = q
  · simp [e]; omega
  · simp [e]
def cntR (q : Int) (l : List T) (g : G) : Int × Int := if validH l g = true then (if kd q = true then (countN q l, 0) else (0, 2)) else (0, 1)

end Go.Proofs.Ytgkohbjphajgoaa.PuHalf1EndOf
