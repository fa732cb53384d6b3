/- The debts of a table, in order. -/
import Derived.Test.YtofcgkcpkngocaaMCirclesx0
import Derived.Test.YtofcgkcpkngocaaMCirclesx5
import Derived.Test.YtofcgkcpkngocaaMCirclesx7
import Derived.Test.YtofcgkcpkngocaaVCirclesEv
import Derived.Test.YtofcgkcpkngocaaVCirclesArr
import Derived.Test.YtofcgkcpkngocaaPuDebtCircles
import Derived.Test.YtofcgkcpkngocaaPuTableCircles
namespace Go.Proofs.Ytofcgkcpkngocaa.PuTableLCircles
open Go.RowKit MCircles Go.Proofs.YtofcgkcpkngocaaW.PrintWords Go.Proofs.YtofcgkcpkngocaaW.PrintLast Evs PuDebtCircles PuTableCircles
set_option linter.unusedVariables false
set_option linter.unusedSimpArgs false
def tq (t : Tb) (q : Nat) : Int := tg t (q / 16) (q % 16)
def dq (t : Tb) (q : Nat) : D := ⟨((q / 16 : Nat) : Int), ((q % 16 : Nat) : Int), tq t q⟩
def cellsFrom (t : Tb) (q : Nat) : List D := ((List.range' q (256 - q)).filter fun x => decide (0 < tq t x)).map (dq t)
def overFrom (t : Tb) (q : Nat) : Bool := (List.range' q (256 - q)).any fun x => decide (100000000 < tq t x)
theorem cells_step (t : Tb) (q : Nat) (h : q < 256) : cellsFrom t q = if 0 < tq t q then dq t q :: cellsFrom t (q + 1) else cellsFrom t (q + 1) := by
  unfold cellsFrom; rw [show 256 - q = (256 - (q + 1)) + 1 by omega, List.range'_succ, List.filter_cons]; by_cases e : 0 < tq t q
  · simp [e]
  · simp [e]
theorem over_step (t : Tb) (q : Nat) (h : q < 256) : overFrom t q = (decide (100000000 < tq t q) || overFrom t (q + 1)) := by
  unfold overFrom; rw [show 256 - q = (256 - (q + 1)) + 1 by omega, List.range'_succ, List.any_cons]
theorem cells_end (t : Tb) : cellsFrom t 256 = [] := rfl
theorem over_end (t : Tb) : overFrom t 256 = false := rfl
def goL (t : Tb) (out : List D) (q : Nat) : List D × Int := if overFrom t q = true then ([], 3) else if 60 < (out ++ cellsFrom t q).length then ([], 3) else (out ++ cellsFrom t q, 0)
def listR (t : Tb) : List D × Int := goL t [] 0
theorem goL_over (t : Tb) (out : List D) (q : Nat) (h : q < 256) (ho : 100000000 < tq t q) : goL t out q = ([], 3) := by
  unfold goL; rw [over_step t q h, decide_eq_true ho, Bool.true_or, if_pos rfl]
theorem goL_take (t : Tb) (out : List D) (q : Nat) (h : q < 256) (ho : ¬ 100000000 < tq t q) (h0 : 0 < tq t q) : goL t out q = goL t (out ++ [dq t q]) (q + 1) := by
  unfold goL; rw [over_step t q h, decide_eq_false ho, Bool.false_or, cells_step t q h, if_pos h0, List.append_assoc]; rfl
theorem goL_skip (t : Tb) (out : List D) (q : Nat) (h : q < 256) (ho : ¬ 100000000 < tq t q) (h0 : ¬ 0 < tq t q) : goL t out q = goL t out (q + 1) := by
  unfold goL; rw [over_step t q h, decide_eq_false ho, Bool.false_or, cells_step t q h, if_neg h0]
theorem goL_end (t : Tb) (out : List D) : goL t out 256 = if 60 < out.length then ([], 3) else (out, 0) := by
  unfold goL; rw [over_end, cells_end, List.append_nil]; rfl
theorem tq_at (t : Tb) (i k : Nat) (hk : k < 16) : tq t (16 * i + k) = tg t i k := by
  unfold tq; rw [show (16 * i + k) / 16 = i by omega, show (16 * i + k) % 16 = k by omega]
theorem dq_at (t : Tb) (i k : Nat) (hk : k < 16) : dq t (16 * i + k) = ⟨(i : Int), (k : Int), tg t i k⟩ := by
  unfold dq; rw [tq_at t i k hk, show (16 * i + k) / 16 = i by omega, show (16 * i + k) % 16 = k by omega]
theorem vrd2_nn (t : Tb) (i k : Nat) : Arr.vrd2 16 t (i : Int) (k : Int) = tg t i k := by
  rw [vrd2_n, Int.toNat_natCast, Int.toNat_natCast]
theorem listS_ev (t : Tb) : Ev (fun k => spec_l02List.f k t) ((listR t).1, (listR t).2, t) := by
  unfold spec_l02List.f listR; refine ev_forI (n := 16) (G := fun k out i => spec_l02List.l0 k out i t) (F := fun out i => ((goL t out (16 * i)).1, (goL t out (16 * i)).2, t)) (I := fun out i => out.length ≤ 16 * i) (fun i hi ih out hI => ?_) (fun out hI => ?_) 0 o_ [] (by simp)
  · refine Ev.step (f := fun k => spec_l02List.l1 k out (i : Int) 0 t) (fun k => by simp only [spec_l02List.l0]; rw [if_pos o_]) ?_; refine ev_forI (n := 16) (G := fun k out q => spec_l02List.l1 k out (i : Int) q t) (F := fun out q => ((goL t out (16 * i + q)).1, (goL t out (16 * i + q)).2, t)) (I := fun out q => out.length ≤ 16 * i + q) (fun q hq ih2 out hI => ?_) (fun out hI => ?_) 0 o_ out o_
    · (have hlt : 16 * i + q < 256 := by omega); have e1 := tq_at t i q hq; have e2 := dq_at t i q hq; by_cases ho : 100000000 < tg t i q
      · refine ev_eq (Ev.step (f := fun _ => some ([], 3, t)) (fun k => ?_) (Ev.now _)) ?_
        · simp only [spec_l02List.l1]; rw [if_pos o_, if_pos o_, if_pos o_, if_pos o_, vrd2_nn, if_pos o_]
        · rw [goL_over t out _ hlt (by rw [e1]; exact ho)]
      · by_cases h0 : 0 < tg t i q
        · refine ev_eq (Ev.step (fun k => ?_) (ih2 (out ++ [⟨(i : Int), (q : Int), tg t i q⟩]) (by simp; omega))) ?_
          · simp only [spec_l02List.l1]; rw [if_pos o_, if_pos o_, if_pos o_, if_pos o_, vrd2_nn, if_neg o_, if_pos o_, if_pos o_, wrap_up hq o_]
          · show ((goL t (out ++ [⟨(i : Int), (q : Int), tg t i q⟩]) (16 * i + q + 1)).1, (goL t (out ++ [⟨(i : Int), (q : Int), tg t i q⟩]) (16 * i + q + 1)).2, t) = _; rw [goL_take t out _ hlt (by rw [e1]; exact ho) (by rw [e1]; exact h0), e2]
        · refine ev_eq (Ev.step (fun k => ?_) (ih2 out o_)) ?_
          · simp only [spec_l02List.l1]; rw [if_pos o_, if_pos o_, if_pos o_, if_pos o_, vrd2_nn, if_neg o_, if_neg o_, wrap_up hq o_]
          · show ((goL t out (16 * i + q + 1)).1, (goL t out (16 * i + q + 1)).2, t) = _; rw [goL_skip t out _ hlt (by rw [e1]; exact ho) (by rw [e1]; exact h0)]
    · refine ev_eq (Ev.step (fun k => ?_) (ih out o_)) ?_
      · simp only [spec_l02List.l1]; rw [if_neg o_, wrap_up hi o_]
      · show ((goL t out (16 * (i + 1))).1, (goL t out (16 * (i + 1))).2, t) = _; rw [show 16 * (i + 1) = 16 * i + 16 by omega]
  · rw [show 16 * 16 = 256 by rfl, goL_end]; by_cases h : 60 < out.length
    · rw [if_pos h]; refine Ev.step (f := fun _ => some ([], 3, t)) (fun k => ?_) (Ev.now _); simp only [spec_l02List.l0]; rw [if_neg o_, if_pos o_]
    · rw [if_neg h]; refine Ev.step (f := fun _ => some (out, 0, t)) (fun k => ?_) (Ev.now _); simp only [spec_l02List.l0]; rw [if_neg o_, if_neg o_]
theorem vrow_nn (t : Tb) (i k : Nat) (h : k < 16) : Arr.vrd (Arr.vrow 16 t (i : Int)) (k : Int) = tg t i k := by
  rw [vrow_n t i k o_, Int.toNat_natCast, Int.toNat_natCast]
theorem listI_ev (t : Tb) : Ev (fun k => impl_sums_debts.f k t) (listR t) := by
  unfold impl_sums_debts.f listR; refine ev_forI (n := 16) (G := fun k out i => impl_sums_debts.l0 k out i t) (F := fun out i => goL t out (16 * i)) (I := fun out i => out.length ≤ 16 * i) (fun i hi ih out hI => ?_) (fun out hI => ?_) 0 o_ [] (by simp)
  · refine Ev.step (f := fun k => impl_sums_debts.l1 k out (i : Int) (i : Int) 0 t (Arr.vrow 16 t (i : Int))) (fun k => by simp only [impl_sums_debts.l0]; rw [if_pos o_, if_pos o_]) ?_; refine ev_forI (n := 16) (G := fun k out q => impl_sums_debts.l1 k out (i : Int) (i : Int) q t (Arr.vrow 16 t (i : Int))) (F := fun out q => goL t out (16 * i + q)) (I := fun out q => out.length ≤ 16 * i + q) (fun q hq ih2 out hI => ?_) (fun out hI => ?_) 0 o_ out o_
    · (have hlt : 16 * i + q < 256 := by omega); have e1 := tq_at t i q hq; have e2 := dq_at t i q hq; by_cases ho : 100000000 < tg t i q
      · refine ev_eq (Ev.step (f := fun _ => some ([], 3)) (fun k => ?_) (Ev.now _)) ?_
        · simp only [impl_sums_debts.l1]; rw [if_pos o_, if_pos o_, vrow_nn t i q hq, if_pos o_]
        · rw [goL_over t out _ hlt (by rw [e1]; exact ho)]
      · by_cases h0 : 0 < tg t i q
        · refine ev_eq (Ev.step (fun k => ?_) (ih2 (out ++ [⟨(i : Int), (q : Int), tg t i q⟩]) (by simp; omega))) ?_
          · simp only [impl_sums_debts.l1]; rw [if_pos o_, if_pos o_, vrow_nn t i q hq, if_neg o_, if_pos o_, if_pos o_, wrap_up hq o_]
          · show goL t (out ++ [⟨(i : Int), (q : Int), tg t i q⟩]) (16 * i + q + 1) = _; rw [goL_take t out _ hlt (by rw [e1]; exact ho) (by rw [e1]; exact h0), e2]
        · refine ev_eq (Ev.step (fun k => ?_) (ih2 out o_)) ?_
          · simp only [impl_sums_debts.l1]; rw [if_pos o_, if_pos o_, vrow_nn t i q hq, if_neg o_, if_neg o_, wrap_up hq o_]
          · show goL t out (16 * i + q + 1) = _; rw [goL_skip t out _ hlt (by rw [e1]; exact ho) (by rw [e1]; exact h0)]
    · refine ev_eq (Ev.step (fun k => ?_) (ih out o_)) ?_
      · simp only [impl_sums_debts.l1]; rw [if_neg o_, wrap_up hi o_]
      · show goL t out (16 * (i + 1)) = _; rw [show 16 * (i + 1) = 16 * i + 16 by omega]
  · rw [show 16 * 16 = 256 by rfl, goL_end]; by_cases h : 60 < out.length
    · rw [if_pos h]; refine Ev.step (f := fun _ => some ([], 3)) (fun k => ?_) (Ev.now _); simp only [impl_sums_debts.l0]; rw [if_neg o_, if_pos o_]
    · rw [if_neg h]; refine Ev.step (f := fun _ => some (out, 0)) (fun k => ?_) (Ev.now _); simp only [impl_sums_debts.l0]; rw [if_neg o_, if_neg o_]
def joinR (p : Int) (l : List D) : List D × Int := if valid p l = true then listR (sumT l) else ([], 1)
theorem JoinS_ev (p : Int) (l : List D) (hl : l.length ≤ maxLen) : Ev (fun k => spec_JoinDebts.f k p l) (joinR p l) := by
  unfold spec_JoinDebts.f joinR; refine Ev.bind (l02Ok_ev p l hl) ?_; by_cases hv : valid p l = true
  · exact ev_ifp hv (ev_pos hv (Ev.bind (sumsS_ev p l hv) (Ev.bind (listS_ev _) (Ev.now _))))
  · exact ev_ifn hv (ev_neg hv (Ev.now _))
theorem JoinI_ev (p : Int) (l : List D) (hl : l.length ≤ maxLen) : Ev (fun k => impl_JoinDebts.f k p l) (joinR p l) := by
  unfold impl_JoinDebts.f joinR; refine Ev.bind (ValidI_ev p l hl) ?_; by_cases hv : valid p l = true
  · exact ev_ifp hv (ev_pos hv (Ev.bind (sumsI_ev p l hv) (Ev.bind (listI_ev _) (Ev.now _))))
  · exact ev_ifn hv (ev_neg hv (Ev.now _))
end Go.Proofs.Ytofcgkcpkngocaa.PuTableLCircles
