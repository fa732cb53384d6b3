/- Sums and counts of the notches for an amount. -/
import Derived.Test.YtcblnnfodpglaaaMSticksx0
import Derived.Test.YtcblnnfodpglaaaVSticksEv
import Derived.Test.YtcblnnfodpglaaaPuGrainSticks
import Derived.Test.YtcblnnfodpglaaaPuNotchSticks
import Derived.Test.YtcblnnfodpglaaaPuHalf1Sticks
import Derived.Test.YtcblnnfodpglaaaPuForSticks
namespace Go.Proofs.Ytcblnnfodpglaaa.PuGreSticks
open Go.RowKit Go.Proofs.Ytcblnnfodpglaaa.MSticks Go.Proofs.YtcblnnfodpglaaaW.PrintWords Go.Proofs.YtcblnnfodpglaaaW.PrintLast Go.Proofs.Ytcblnnfodpglaaa.Evs Go.Proofs.Ytcblnnfodpglaaa.PuGrainSticks Go.Proofs.Ytcblnnfodpglaaa.PuNotchSticks Go.Proofs.Ytcblnnfodpglaaa.PuHalf1Sticks Go.Proofs.Ytcblnnfodpglaaa.PuForSticks
set_option linter.unusedVariables false
set_option linter.unusedSimpArgs false

theorem run_sum (m : Nat) (hm : m ≤ 5) : ∀ (c : Nat) (a : Int), sumN (run m a c) = c * wo m
  | 0, a => by simp [run, sumN]
  | c + 1, a => by
    have e : sumN (run m a (c + 1)) = wo (nT m a).f0 + sumN (run m (a + (wd m + 1)) c) := rfl
    rw [e, run_sum m hm c, nT_f0 m a hm]
    rw [show ((c + 1 : Nat) : Int) = (c : Int) + 1 by omega, Int.add_mul]; omega
theorem run_count (q : Int) (m : Nat) (hm : m ≤ 5) : ∀ (c : Nat) (a : Int), countN q (run m a c) = if (m : Int) = q then (c : Int) else 0
  | 0, a => by simp [run, countN]
  | c + 1, a => by
    have e : countN q (run m a (c + 1)) = (if (nT m a).f0 = q then 1 else 0) + countN q (run m (a + (wd m + 1)) c) := countN_drop q (nT m a :: run m (a + (wd m + 1)) c) 0 (by simp)
    rw [e, run_count q m hm c, nT_f0 m a hm]
    split <;> omega
theorem sum_app (a b : List T) : sumN (a ++ b) = sumN a + sumN b := by simp [sumN]
theorem count_app (q : Int) (a b : List T) : countN q (a ++ b) = countN q a + countN q b := by simp [countN, List.countP_append]
theorem gre_sum : ∀ (m : Nat) (x a : Int), m ≤ 6 → 0 ≤ x → sumN (gre m x a) + (if m = 0 then x else 0) = (if m = 0 then x else x)
  | 0, x, a, _, _ => by simp [gre, sumN]
  | m + 1, x, a, hm, h0 => by
    have hp := wo_pos (m : Int) (by omega) (by omega)
    have hd : 0 ≤ x / wo m := Int.ediv_nonneg h0 (by omega)
    have hr : 0 ≤ x % wo m := Int.emod_nonneg _ (by omega)
    have := gre_sum m (x % wo m) (a + (x / wo m) * (wd m + 1)) (by omega) hr
    simp only [gre]
    rw [sum_app, run_sum m (by omega), if_neg (by omega), if_neg (by omega)]
    have e : ((x / wo m).toNat : Int) = x / wo m := by omega
    rw [e]
    have hdm := Int.mul_ediv_add_emod x (wo m)
    rw [Int.mul_comm] at hdm
    by_cases h : m = 0
    · subst h
      have w0 : wo ((0 : Nat) : Int) = 1 := rfl
      rw [w0] at hdm ⊢
      simp only [gre, sumN]
      simp
    · rw [if_neg h, if_neg h] at this
      omega
theorem gre_total (x : Int) (h : 0 ≤ x) : sumN (gre 6 x 0) = x := by
  have := gre_sum 6 x 0 (by omega) h
  simpa using this
theorem gre_none (q : Int) : ∀ (m : Nat) (x a : Int), m ≤ 6 → (m : Int) ≤ q → countN q (gre m x a) = 0
  | 0, x, a, _, _ => by simp [gre, countN]
  | m + 1, x, a, hm, hq => by
    simp only [gre]
    rw [count_app, run_count q m (by omega), if_neg (by omega), gre_none q m _ _ (by omega) (by omega)]
    rfl
theorem gre_lt (q : Nat) : ∀ (m : Nat) (x a : Int), m ≤ 6 → q + 1 < m → 0 ≤ x → countN q (gre m x a) * wo q < wo (q + 1 : Nat)
  | 0, x, a, _, h, _ => by omega
  | m + 1, x, a, hm, hq, h0 => by
    have hp := wo_pos (m : Int) (by omega) (by omega)
    have hr : 0 ≤ x % wo m := Int.emod_nonneg _ (by omega)
    have hlt : x % wo m < wo m := Int.emod_lt_of_pos _ (by omega)
    simp only [gre]
    rw [count_app, run_count q m (by omega), if_neg (by omega), Int.zero_add]
    by_cases h : q + 1 < m
    · exact gre_lt q m _ _ (by omega) h hr
    · have e : m = q + 1 := by omega
      subst e
      simp only [gre]
      rw [count_app, run_count q q (by omega), if_pos rfl, gre_none q q _ _ (by omega) (by omega), Int.add_zero]
      have hq := wo_pos (q : Int) (by omega) (by omega)
      have hd : 0 ≤ x % wo ((q + 1 : Nat) : Int) / wo q := Int.ediv_nonneg hr (by omega)
      have e2 : (((x % wo ((q + 1 : Nat) : Int) / wo q).toNat : Nat) : Int) = x % wo ((q + 1 : Nat) : Int) / wo q := by omega
      rw [e2]
      have := Int.ediv_mul_le (x % wo ((q + 1 : Nat) : Int)) (show wo q ≠ 0 by omega)
      omega
theorem nT_any (k a : Int) : wfT (nT k a) := by
  have h8 : -128 ≤ IntKind.i8.wrap k ∧ IntKind.i8.wrap k ≤ 127 := by
    simp only [IntKind.wrap, IntKind.bits, IntKind.signed]; simp; omega
  have h16 : -32768 ≤ IntKind.i16.wrap a ∧ IntKind.i16.wrap a ≤ 32767 := by
    simp only [IntKind.wrap, IntKind.bits, IntKind.signed]; simp; omega
  exact ⟨h8, h16⟩
theorem run_wfT (k : Int) : ∀ (c : Nat) (a : Int), ∀ n ∈ run k a c, wfT n
  | 0, a, n, h => by simp [run] at h
  | c + 1, a, n, h => by
    simp only [run, List.mem_cons] at h
    rcases h with rfl | h
    · exact nT_any k a
    · exact run_wfT k c _ n h
theorem gre_wfT : ∀ (m : Nat) (x a : Int), ∀ n ∈ gre m x a, wfT n
  | 0, x, a, n, h => by simp [gre] at h
  | m + 1, x, a, n, h => by
    simp only [gre, List.mem_append] at h
    rcases h with h | h
    · exact run_wfT _ _ _ n h
    · exact gre_wfT m _ _ n h
end Go.Proofs.Ytcblnnfodpglaaa.PuGreSticks
