/- Debts that are paid in part, offset, passed on. -/
import Derived.Test.YtofcgkcpkngocaaMOffsetPairsx0
import Derived.Test.YtofcgkcpkngocaaMOffsetPairsx4
import Derived.Test.YtofcgkcpkngocaaMOffsetPairsx5
import Derived.Test.YtofcgkcpkngocaaMOffsetPairsx6
import Derived.Test.YtofcgkcpkngocaaMOffsetPairsx7
import Derived.Test.YtofcgkcpkngocaaEv
import Derived.Test.YtofcgkcpkngocaaArr
import Derived.Test.YtofcgkcpkngocaaPuDebtOffsetPairs
import Derived.Test.YtofcgkcpkngocaaPuTableOffsetPairs
import Derived.Test.YtofcgkcpkngocaaPuTableLOffsetPairs
namespace Go.Proofs.Ytofcgkcpkngocaa.PuPayOffsetPairs
open Go.RowKit Go.Proofs.Ytofcgkcpkngocaa.MOffsetPairs Go.Proofs.YtofcgkcpkngocaaW.PrintWords Go.Proofs.YtofcgkcpkngocaaW.PrintLast Go.Proofs.YtofcgkcpkngocaaW.PrintMore Go.Proofs.Ytofcgkcpkngocaa.Evs Go.Proofs.Ytofcgkcpkngocaa.PuDebtOffsetPairs Go.Proofs.Ytofcgkcpkngocaa.PuTableOffsetPairs Go.Proofs.Ytofcgkcpkngocaa.PuTableLOffsetPairs
set_option linter.unusedVariables false
set_option linter.unusedSimpArgs false
def paidT (t : Tb) (a b c : Int) : Tb := Arr.vst2 16 t a b (wrap64 (Arr.vrd2 16 t a b - c))
def payR (p : Int) (l : List D) (a b c : Int) : List D × Int :=
  if codeD p l [a, b] = 0 then (if 1 ≤ c ∧ c ≤ Arr.vrd2 16 (sumT l) a b then listR (paidT (sumT l) a b c) else ([], 4)) else ([], codeD p l [a, b])
theorem payR_len (p : Int) (l : List D) (a b c : Int) : (payR p l a b c).1.length ≤ 60 := by
  unfold payR
  split
  · split
    · exact listR_len _
    · simp
  · simp
/-! offset -/
def offT (t : Tb) (i k : Nat) : Tb :=
  let m := mn (tg t i k) (tg t k i)
  Arr.vst2 16 (Arr.vst2 16 t (i : Int) (k : Int) (wrap64 (tg t i k - m))) (k : Int) (i : Int) (wrap64 (tg (Arr.vst2 16 t (i : Int) (k : Int) (wrap64 (tg t i k - m))) k i - m))
def offRow (i : Nat) : Nat → Nat → Tb → Tb
  | 0, _, t => t
  | n + 1, k, t => offRow i n (k + 1) (offT t i k)
def offAll : Nat → Nat → Tb → Tb
  | 0, _, t => t
  | n + 1, i, t => offAll n (i + 1) (offRow i i 0 t)
theorem offRow_step (i k : Nat) (t : Tb) (h : k < i) : offRow i (i - k) k t = offRow i (i - (k + 1)) (k + 1) (offT t i k) := by
  rw [show i - k = (i - (k + 1)) + 1 by omega]; rfl
theorem offAll_step (i : Nat) (t : Tb) (h : i < 16) : offAll (16 - i) i t = offAll (16 - (i + 1)) (i + 1) (offRow i i 0 t) := by
  rw [show 16 - i = (16 - (i + 1)) + 1 by omega]; rfl
theorem min_mn (a b : Int) : spec_l00Min.f a b = some (mn a b) := by
  unfold spec_l00Min.f mn
  by_cases h : a < b
  · rw [if_pos h]; (repeat' split) <;> first | rfl | (congr 1; omega)
  · rw [if_neg h]; (repeat' split) <;> first | rfl | (congr 1; omega)
def offR (p : Int) (l : List D) : List D × Int := if (joinR p l).2 = 0 then listR (offAll 16 0 (sumT l)) else ([], (joinR p l).2)
theorem offS_loop (t : Tb) : Ev (fun k => spec_OffsetPairs.l0 k 0 t) (listR (offAll 16 0 t)) := by
  refine ev_for (n := 16) (G := fun k (t : Tb) i => spec_OffsetPairs.l0 k i t) (F := fun t i => listR (offAll (16 - i) i t)) (fun i hi ih t => ?_) (fun t => ?_) 0 (by omega) t
  · rw [offAll_step i t hi]
    refine Ev.step (f := fun k => spec_OffsetPairs.l1 k (i : Int) 0 t) (fun k => by simp only [spec_OffsetPairs.l0]; rw [if_pos (by omega)]) ?_
    refine ev_for (n := i) (G := fun k (t : Tb) q => spec_OffsetPairs.l1 k (i : Int) q t) (F := fun t q => listR (offAll (16 - (i + 1)) (i + 1) (offRow i (i - q) q t))) (fun q hq ih2 t => ?_) (fun t => ?_) 0 (by omega) t
    · rw [offRow_step i q t hq]
      refine Ev.step (fun k => ?_) (ih2 (offT t i q))
      simp only [spec_OffsetPairs.l1]
      rw [if_pos (by omega), if_pos (by omega), if_pos (by omega), if_pos (by omega), if_pos (by omega), vrd2_nn, vrd2_nn, min_mn, wrap_up hq (by omega)]
      simp only [Option.bind_some]
      rw [vrd2_nn]
      rfl
    · rw [Nat.sub_self]
      refine Ev.step (fun k => ?_) (ih t)
      simp only [spec_OffsetPairs.l1]
      rw [if_neg (by omega), wrap_up hi (by omega)]
  · refine Ev.step (f := fun k => (spec_l02List.f k t).bind fun b => some (b.1, b.2.1)) (fun k => ?_) (Ev.bind (listS_ev t) (Ev.now _))
    simp only [spec_OffsetPairs.l0]
    rw [if_neg (by omega)]
theorem offI_loop (t : Tb) : Ev (fun k => impl_OffsetPairs.l0 k 0 t) (listR (offAll 16 0 t)) := by
  refine ev_for (n := 16) (G := fun k (t : Tb) i => impl_OffsetPairs.l0 k i t) (F := fun t i => listR (offAll (16 - i) i t)) (fun i hi ih t => ?_) (fun t => ?_) 0 (by omega) t
  · rw [offAll_step i t hi]
    refine Ev.step (f := fun k => impl_OffsetPairs.l1 k (i : Int) (i : Int) (i : Int) 0 t) (fun k => by simp only [impl_OffsetPairs.l0]; rw [if_pos (by omega)]) ?_
    refine ev_for (n := i) (G := fun k (t : Tb) q => impl_OffsetPairs.l1 k (i : Int) (i : Int) (i : Int) q t) (F := fun t q => listR (offAll (16 - (i + 1)) (i + 1) (offRow i (i - q) q t))) (fun q hq ih2 t => ?_) (fun t => ?_) 0 (by omega) t
    · rw [offRow_step i q t hq]
      refine Ev.step (fun k => ?_) (ih2 (offT t i q))
      simp only [impl_OffsetPairs.l1]
      rw [if_pos (by omega), if_pos (by omega), if_pos (by omega), if_pos (by omega), if_pos (by omega), vrd2_nn, vrd2_nn, wrap_up hq (by omega)]
      simp only [Option.bind_some]
      rw [vrd2_nn]
      rfl
    · rw [Nat.sub_self]
      refine Ev.step (fun k => ?_) (ih t)
      simp only [impl_OffsetPairs.l1]
      rw [if_neg (by omega), wrap_up hi (by omega)]
  · refine Ev.step (f := fun k => (impl_sums_debts.f k t).bind fun b => some (b.1, b.2)) (fun k => ?_) (Ev.bind (listI_ev t) (Ev.now _))
    simp only [impl_OffsetPairs.l0]
    rw [if_neg (by omega)]
theorem OffS_ev (p : Int) (l : List D) (hl : l.length ≤ maxLen) : Ev (fun k => spec_OffsetPairs.f k p l) (offR p l) := by
  unfold spec_OffsetPairs.f offR
  refine Ev.bind (l02Ok_ev p l hl) ?_
  by_cases hv : valid p l = true
  · have e : joinR p l = listR (sumT l) := if_pos hv
    rw [e]
    refine ev_pos hv (Ev.bind (sumsS_ev p l hv) (Ev.bind (listS_ev _) ?_))
    by_cases h : (listR (sumT l)).2 = 0
    · exact ev_ifp h (ev_pos h (offS_loop _))
    · exact ev_ifn h (ev_neg h (Ev.now _))
  · have e : joinR p l = ([], 1) := if_neg hv
    rw [e]
    exact ev_ifn (by decide) (ev_neg hv (Ev.now _))
theorem OffI_ev (p : Int) (l : List D) (hl : l.length ≤ maxLen) : Ev (fun k => impl_OffsetPairs.f k p l) (offR p l) := by
  unfold impl_OffsetPairs.f offR
  refine Ev.bind (JoinI_ev p l hl) ?_
  by_cases h : (joinR p l).2 = 0
  · have hv : valid p l = true := by
      by_cases hv : valid p l = true
      · exact hv
      · have e : joinR p l = ([], 1) := if_neg hv
        rw [e] at h; cases h
    exact ev_ifp h (ev_pos h (Ev.bind (sumsI_ev p l hv) (offI_loop _)))
  · exact ev_ifn h (ev_neg h (Ev.now _))
theorem offR_len (p : Int) (l : List D) : (offR p l).1.length ≤ 60 := by
  unfold offR
  split
  · exact listR_len _
  · simp
/-! pass -/
def passT (t : Tb) (a b n c : Int) : Tb :=
  let t1 := Arr.vst2 16 t a b (wrap64 (Arr.vrd2 16 t a b - c))
  let t2 := Arr.vst2 16 t1 b n (wrap64 (Arr.vrd2 16 t1 b n - c))
  if a = n then t2 else Arr.vst2 16 t2 a n (wrap64 (Arr.vrd2 16 t2 a n + c))
def passOk (t : Tb) (a b n c : Int) : Bool := decide (a ≠ b ∧ b ≠ n ∧ 1 ≤ c ∧ c ≤ Arr.vrd2 16 t a b ∧ c ≤ Arr.vrd2 16 t b n)
def passR (p : Int) (l : List D) (a b n c : Int) : List D × Int :=
  if codeD p l [a, b, n] = 0 then (if passOk (sumT l) a b n c = true then listR (passT (sumT l) a b n c) else ([], 4)) else ([], codeD p l [a, b, n])
theorem mn_ge (a b c : Int) : c ≤ mn a b ↔ c ≤ a ∧ c ≤ b := by
  unfold mn
  repeat' split
  all_goals omega
theorem code_three (p : Int) (l : List D) (a b n : Int) : codeD p l [a, b, n] = if codeD p l [a, b] = 0 then (if 0 ≤ n ∧ n < p then 0 else 2) else codeD p l [a, b] := by
  unfold codeD
  by_cases hv : valid p l = true
  · rw [if_pos hv, if_pos hv]
    simp only [arePs, okP, List.all_cons, List.all_nil, Bool.and_true, Bool.and_eq_true, decide_eq_true_eq]
    by_cases h1 : 0 ≤ a ∧ a < p
    · by_cases h2 : 0 ≤ b ∧ b < p
      · by_cases h3 : 0 ≤ n ∧ n < p <;> simp [h1, h2, h3]
      · simp [h1, h2]
    · simp [h1]
  · rw [if_neg hv, if_neg hv]; rfl
theorem passR_len (p : Int) (l : List D) (a b n c : Int) : (passR p l a b n c).1.length ≤ 60 := by
  unfold passR
  split
  · split
    · exact listR_len _
    · simp
  · simp
end Go.Proofs.Ytofcgkcpkngocaa.PuPayOffsetPairs
