/- For all nets the program's SettleByNets returns what the reference's returns; no condition. -/
import Derived.Test.YtgmciklleapocaaMSettleByNetsx0
import Derived.Test.YtgmciklleapocaaMSettleByNetsx1
import Derived.Test.YtgmciklleapocaaMSettleByNetsx4
import Derived.Test.YtgmciklleapocaaMSettleByNetsx5
import Derived.Test.YtgmciklleapocaaMSettleByNetsx6
import Derived.Test.YtgmciklleapocaaEv
import Derived.Test.YtgmciklleapocaaPuSettleSettleByNets
import Derived.Test.YtgmciklleapocaaPuToISettleByNets
import Derived.Test.YtgmciklleapocaaPuIntsSettleByNets
import Derived.Test.YtgmciklleapocaaPuDebtHSettleByNets
namespace Go.Proofs.Ytgmciklleapocaa.Pure
open Go.RowKit Go.Proofs.Ytgmciklleapocaa.MSettleByNets Go.Proofs.YtgmciklleapocaaW.PrintWords Go.Proofs.YtgmciklleapocaaW.PrintLast Go.Proofs.Ytgmciklleapocaa.Evs Go.Proofs.Ytgmciklleapocaa.PuDebtSettleByNets Go.Proofs.Ytgmciklleapocaa.PuDebtMSettleByNets Go.Proofs.Ytgmciklleapocaa.PuDebtHSettleByNets Go.Proofs.Ytgmciklleapocaa.PuZeroSettleByNets Go.Proofs.Ytgmciklleapocaa.PuToISettleByNets Go.Proofs.Ytgmciklleapocaa.PuIntsSettleByNets Go.Proofs.Ytgmciklleapocaa.PuSettleSettleByNets
set_option linter.unusedVariables false
set_option linter.unusedSimpArgs false

def settleR (x : List Int) : List D × Int := if nets0 x = true then (settleL x, 0) else ([], 1)
theorem settleR_len (x : List Int) : (settleR x).1.length ≤ 17 := by
  unfold settleR
  split
  · next h => exact settle_len (good_of h)
  · simp
theorem byS_ev (x : List Int) (hx : x.length ≤ maxLen) : Ev (fun k => spec_SettleByNets.f k x) (settleR x) := by
  unfold spec_SettleByNets.f settleR
  refine Ev.bind (ZeroS_ev x hx) ?_
  by_cases h : nets0 x = true
  · refine ev_pos h ?_
    rw [if_pos h]
    have := l02Settle_ev x [] (good_of h) (by simp)
    rw [List.nil_append] at this
    exact Ev.bind this (Ev.now _)
  · refine ev_neg h ?_
    rw [if_neg h]; exact Ev.now _
theorem byI_ev (x : List Int) (hx : x.length ≤ maxLen) : Ev (fun k => impl_SettleByNets.f k x) (settleR x) := by
  unfold impl_SettleByNets.f settleR
  refine Ev.bind (ZeroI_ev x hx) ?_
  by_cases h : nets0 x = true
  · refine ev_pos h ?_
    rw [if_pos h]
    exact Ev.bind (settleF_ev x (good_of h)) (Ev.now _)
  · refine ev_neg h ?_
    rw [if_neg h]; exact Ev.now _
theorem FnExactSettleByNets (x : List Int) (hx : x.length ≤ maxLen) (_ : ∀ z ∈ x, (Lit.int .i64 z).wf = true) : ∃ k, laws_FnExactSettleByNets.f k x = some true := by
  refine Ev.rounds (r := true) ?_
  unfold laws_FnExactSettleByNets.f
  by_cases h0 : (x.length : Int) > 1048576
  · exact ev_pos h0 (Ev.now _)
  refine ev_neg h0 ?_
  have tx := toI_ev x (by omega)
  have hl := settleR_len x
  have he := eqS_refl (settleR x).1 (by unfold maxLen; omega)
  have hI : Ev (fun k => laws_eqInt64S.f k x x) true := eqI_any x hx
  have hmi : Ev (fun k => laws_markInt64S.f k x 1) (1 + x.length, count 1 x.length) := markI_any x 1 (by omega) (by omega) (by omega)
  have hmd := markD_at (settleR x).1 1 (by omega) (by omega) (by omega)
  have hhd := heldD_ev (settleR x).1.length 1 (by omega) (by omega) (by omega)
  refine Ev.bind tx (Ev.bind (byS_ev x hx) (Ev.bind tx (Ev.bind (byI_ev x hx) (Ev.bind he (ev_pos rfl ?_)))))
  rw [bne_self_eq_false]
  refine Ev.step (fun k => by simp only [laws_FnExactSettleByNets.j0]; rfl) ?_
  refine Ev.bind tx (Ev.bind hI (ev_pos rfl (Ev.bind hmi ?_)))
  refine ev_neg (by dsimp only; omega) (Ev.bind he (ev_pos rfl ?_))
  rw [bne_self_eq_false]
  refine Ev.step (fun k => by simp only [laws_FnExactSettleByNets.j1]; rfl) ?_
  refine Ev.bind hmd (Ev.bind hhd ?_)
  refine ev_neg (by omega) (ev_pos rfl ?_)
  refine Ev.bind tx (Ev.bind (byI_ev x hx) (Ev.bind he (ev_pos rfl ?_)))
  rw [bne_self_eq_false]
  refine Ev.step (fun k => by simp only [laws_FnExactSettleByNets.j2]; rfl) ?_
  refine Ev.bind hhd ?_
  exact ev_neg (by omega) (ev_pos rfl (Ev.now _))
end Go.Proofs.Ytgmciklleapocaa.Pure
