/- The debts of a table, in order. -/
import Derived.Test.YtofcgkcpkngocaaMCanPayFromx0
import Derived.Test.YtofcgkcpkngocaaVCanPayFromEv
import Derived.Test.YtofcgkcpkngocaaVCanPayFromArr
import Derived.Test.YtofcgkcpkngocaaPuDebtCanPayFrom
import Derived.Test.YtofcgkcpkngocaaPuTableCanPayFrom
namespace Go.Proofs.Ytofcgkcpkngocaa.PuTableLCanPayFrom
open Go.RowKit Go.Proofs.Ytofcgkcpkngocaa.MCanPayFrom Go.Proofs.YtofcgkcpkngocaaW.PrintWords Go.Proofs.YtofcgkcpkngocaaW.PrintLast Go.Proofs.Ytofcgkcpkngocaa.Evs Go.Proofs.Ytofcgkcpkngocaa.PuDebtCanPayFrom Go.Proofs.Ytofcgkcpkngocaa.PuTableCanPayFrom
set_option linter.unusedVariables false
set_option linter.unusedSimpArgs false
def tq (t : Tb) (q : Nat) : Int := tg t (q / 16) (q % 16)
def dq (t : Tb) (q : Nat) : D := ⟨((q / 16 : Nat) : Int), ((q % 16 : Nat) : Int), tq t q⟩
def cellsFrom (t : Tb) (q : Nat) : List D := ((List.range' q (256 - q)).filter fun x => decide (0 < tq t x)).map (dq t)
def overFrom (t : Tb) (q : Nat) : Bool := (List.range' q (256 - q)).any fun x => decide (100000000 < tq t x)
theorem cells_step (t : Tb) (q : Nat) (h : q < 256) : cellsFrom t q = if 0 < tq t q then dq t q :: cellsFrom t (q + 1) else cellsFrom t (q + 1) := by
  unfold cellsFrom
  rw [show 256 - q = (256 - (q + 1)) + 1 by omega, List.range'_succ, List.filter_cons]
  by_cases e : 0 < tq t q
  · simp [e]
  · simp [e]
theorem over_step (t : Tb) (q : Nat) (h : q < 256) : overFrom t q = (decide (100000000 < tq t q) || overFrom t (q + 1)) := by
  unfold overFrom
  rw [show 256 - q = (256 - (q + 1)) + 1 by omega, List.range'_succ, List.any_cons]
theorem cells_end (t : Tb) : cellsFrom t 256 = [] := rfl
theorem over_end (t : Tb) : overFrom t 256 = false := rfl
def goL (t : Tb) (out : List D) (q : Nat) : List D × Int := if overFrom t q = true then ([], 3) else if 60 < (out ++ cellsFrom t q).length then ([], 3) else (out ++ cellsFrom t q, 0)
def listR (t : Tb) : List D × Int := goL t [] 0
theorem goL_over (t : Tb) (out : List D) (q : Nat) (h : q < 256) (ho : 100000000 < tq t q) : goL t out q = ([], 3) := by
  unfold goL
  rw [over_step t q h, decide_eq_true ho, Bool.true_or, if_pos rfl]
theorem goL_take (t : Tb) (out : List D) (q : Nat) (h : q < 256) (ho : ¬ 100000000 < tq t q) (h0 : 0 < tq t q) : goL t out q = goL t (out ++ [dq t q]) (q + 1) := by
  unfold goL
  rw [over_step t q h, decide_eq_false ho, Bool.false_or, cells_step t q h, if_pos h0, List.append_assoc]
  rfl
theorem goL_skip (t : Tb) (out : List D) (q : Nat) (h : q < 256) (ho : ¬ 100000000 < tq t q) (h0 : ¬ 0 < tq t q) : goL t out q = goL t out (q + 1) := by
  unfold goL
  rw [over_step t q h, decide_eq_false ho, Bool.false_or, cells_step t q h, if_neg h0]
theorem goL_end (t : Tb) (out : List D) : goL t out 256 = if 60 < out.length then ([], 3) else (out, 0) := by
  unfold goL
  rw [over_end, cells_end, List.append_nil]
  rfl
theorem tq_at (t : Tb) (i k : Nat) (hk : k < 16) : tq t (16 * i + k) = tg t i k := by
  unfold tq
  rw [show (16 * i + k) / 16 = i by omega, show (16 * i + k) % 16 = k by omega]
theorem dq_at (t : Tb) (i k : Nat) (hk : k < 16) : dq t (16 * i + k) = ⟨(i : Int), (k : Int), tg t i k⟩ := by
  unfold dq
  rw [tq_at t i k hk, show (16 * i + k) / 16 = i by omega, show (16 * i + k) % 16 = k by omega]
theorem vrd2_nn (t : Tb) (i k : Nat) : Arr.vrd2 16 t (i : Int) (k : Int) = tg t i k := by
  rw [vrd2_n, Int.toNat_natCast, Int.toNat_natCast]
theorem vrow_nn (t : Tb) (i k : Nat) (h : k < 16) : Arr.vrd (Arr.vrow 16 t (i : Int)) (k : Int) = tg t i k := by
  rw [vrow_n t i k (by omega), Int.toNat_natCast, Int.toNat_natCast]
theorem listR_len (t : Tb) : (listR t).1.length ≤ 60 := by
  unfold listR goL
  split
  · simp
  · split
    · simp
    · simp only; omega
def joinR (p : Int) (l : List D) : List D × Int := if valid p l = true then listR (sumT l) else ([], 1)
theorem joinR_len (p : Int) (l : List D) : (joinR p l).1.length ≤ 60 := by
  unfold joinR
  split
  · exact listR_len _
  · simp
end Go.Proofs.Ytofcgkcpkngocaa.PuTableLCanPayFrom
