/- For all nets the program's FewestPayments returns what the reference's returns, in memory of its own; no condition. -/
import Derived.Test.YtcghnnhhgngddaaDoorMFewestPaymentsx0
import Derived.Test.YtcghnnhhgngddaaDoorMFewestPaymentsx1
import Derived.Test.YtcghnnhhgngddaaDoorMFewestPaymentsx10
import Derived.Test.YtcghnnhhgngddaaDoorMFewestPaymentsx11
import Derived.Test.YtcghnnhhgngddaaDoorVFewestPaymentsEv
import Derived.Test.YtcghnnhhgngddaaDoorPuAllFewestPayments
namespace Go.Proofs.YtcghnnhhgngddaaDoor.Pure
open Go.RowKit Go.Proofs.YtcghnnhhgngddaaDoor.MFewestPayments Go.Proofs.YtcghnnhhgngddaaDoorW.PrintWords Go.Proofs.YtcghnnhhgngddaaDoorW.PrintLast Go.Proofs.YtcghnnhhgngddaaDoor.Evs Go.Proofs.YtcghnnhhgngddaaDoor.PuDebtFewestPayments Go.Proofs.YtcghnnhhgngddaaDoor.PuDebtMFewestPayments Go.Proofs.YtcghnnhhgngddaaDoor.PuDebtHFewestPayments Go.Proofs.YtcghnnhhgngddaaDoor.PuZeroFewestPayments Go.Proofs.YtcghnnhhgngddaaDoor.PuToIFewestPayments Go.Proofs.YtcghnnhhgngddaaDoor.PuIntsFewestPayments Go.Proofs.YtcghnnhhgngddaaDoor.PuFewRFewestPayments
set_option linter.unusedVariables false
set_option linter.unusedSimpArgs false

theorem FnExactFewestPayments (x : List Int) (hx : x.length ≤ maxLen) (_ : ∀ z ∈ x, (Lit.int .i64 z).wf = true) : ∃ k, laws_FnExactFewestPayments.f k x = some true := by
  refine Ev.rounds (r := true) ?_
  unfold laws_FnExactFewestPayments.f
  by_cases h0 : (x.length : Int) > 1048576
  · exact ev_pos h0 (Ev.now _)
  refine ev_neg h0 ?_
  have tx := toI_ev x (by omega)
  have hl := fewR_len x
  have he := eqS_refl (fewR x).1 (by unfold maxLen; omega)
  have hI : Ev (fun k => laws_eqInt64S.f k x x) true := eqI_any x hx
  have hmi : Ev (fun k => laws_markInt64S.f k x 1) (1 + x.length, count 1 x.length) := markI_any x 1 (by omega) (by omega) (by omega)
  have hmd := markD_at (fewR x).1 1 (by omega) (by omega) (by omega)
  have hhd := heldD_ev (fewR x).1.length 1 (by omega) (by omega) (by omega)
  refine Ev.bind tx (Ev.bind (fewS_ev x hx) (Ev.bind tx (Ev.bind (fewI_ev x hx) (Ev.bind he (ev_pos rfl ?_)))))
  rw [bne_self_eq_false]
  refine Ev.step (fun k => by simp only [laws_FnExactFewestPayments.j0]; rfl) ?_
  refine ev_neg (by decide) ?_
  refine Ev.bind tx (Ev.bind hI (ev_pos rfl (Ev.bind hmi ?_)))
  refine ev_neg (by dsimp only; omega) (Ev.bind he (ev_pos rfl ?_))
  rw [bne_self_eq_false]
  refine Ev.step (fun k => by simp only [laws_FnExactFewestPayments.j1]; rfl) ?_
  refine ev_neg (by decide) ?_
  refine Ev.bind hmd (Ev.bind hhd ?_)
  refine ev_neg (by omega) (ev_pos rfl ?_)
  refine Ev.bind tx (Ev.bind (fewI_ev x hx) (Ev.bind he (ev_pos rfl ?_)))
  rw [bne_self_eq_false]
  refine Ev.step (fun k => by simp only [laws_FnExactFewestPayments.j2]; rfl) ?_
  refine ev_neg (by decide) ?_
  refine Ev.bind hhd ?_
  exact ev_neg (by omega) (ev_pos rfl (Ev.now _))
end Go.Proofs.YtcghnnhhgngddaaDoor.Pure
