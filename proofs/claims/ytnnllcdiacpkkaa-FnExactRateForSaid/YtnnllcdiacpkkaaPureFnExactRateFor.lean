/- For all integers amount, paid and days the program's RateFor returns what the reference's returns; no condition. -/
import Derived.Test.YtnnllcdiacpkkaaPFnExactRateForx2
namespace Go.Proofs.Ytnnllcdiacpkkaa.Pure
open Go.RowKit Go.Proofs.Ytnnllcdiacpkkaa.PFnExactRateFor Go.Proofs.YtnnllcdiacpkkaaW.PrintWords Go.Proofs.YtnnllcdiacpkkaaW.PrintLast

def okAmount (a : Int) : Bool := decide (0 ≤ a) && decide (a ≤ 100000000)
def okDay (a : Int) : Bool := decide (0 ≤ a) && decide (a ≤ 40000)

theorem amount_f (a : Int) : impl_isAmount.f a = some (okAmount a) := by
  unfold impl_isAmount.f okAmount
  by_cases h : a ≥ 0
  · rw [if_pos h]; simp [show (0 : Int) ≤ a from h]
  · rw [if_neg h]; simp [show ¬ (0 : Int) ≤ a from h]
theorem day_f (a : Int) : impl_isDay.f a = some (okDay a) := by
  unfold impl_isDay.f okDay
  by_cases h : a ≥ 0
  · rw [if_pos h]; simp [show (0 : Int) ≤ a from h]
  · rw [if_neg h]; simp [show ¬ (0 : Int) ≤ a from h]
theorem amount_s (a : Int) : spec_l03Amount.f a = some (okAmount a) := by
  unfold spec_l03Amount.f spec_l00In.f okAmount
  by_cases h : a ≥ 0
  · simp [h]
  · simp [h]
theorem day_s (a : Int) : spec_l03Day.f a = some (okDay a) := by
  unfold spec_l03Day.f spec_l00In.f okDay
  by_cases h : a ≥ 0
  · simp [h]
  · simp [h]

theorem code_f (k : Nat) (a b d : Int) : impl_rateCode.f (k + 6) 0 1 [a, b] [d] = some (if okAmount a && okAmount b && okDay d then 0 else 2) := by
  unfold impl_rateCode.f impl_ValidRate.f
  simp only [impl_rateCode.l0, impl_rateCode.l1, amount_f, day_f, rd]
  cases ha : okAmount a <;> cases hb : okAmount b <;> cases hd : okDay d <;> simp [wrap64, ha, hb, hd]

theorem int_same (a b c d : Int) : impl_interest.f a b c d = spec_l03Interest.f a b c d := rfl

theorem loop_same (a p d : Int) (k : Nat) : ∀ n : Int, impl_RateFor.l0 k a p d n = spec_RateFor.l0 k a p d n := by
  induction k with
  | zero => intro n; rfl
  | succ k ih =>
    intro n
    simp only [impl_RateFor.l0, spec_RateFor.l0, int_same, ih]
    by_cases h : n < 1001
    · rw [if_pos h, if_pos (show n ≤ 1000 by omega)]
    · rw [if_neg h, if_neg (show ¬ n ≤ 1000 by omega)]

theorem interest_some (a n d : Int) : ∃ x, spec_l03Interest.f a n 1000 d = some x := by
  unfold spec_l03Interest.f
  rw [if_neg (by simp [wrap64])]
  exact ⟨_, rfl⟩

theorem loop_ends (a p d : Int) (m : Nat) : ∀ (k : Nat) (n : Int), 0 ≤ n → n ≤ 1001 → 1001 - n = m → m < k → ∃ r, spec_RateFor.l0 k a p d n = some r := by
  induction m with
  | zero =>
    intro k n h0 h1 hm hk
    obtain ⟨k, rfl⟩ : ∃ j, k = j + 1 := ⟨k - 1, by omega⟩
    exact ⟨_, by simp only [spec_RateFor.l0]; rw [if_neg (by omega)]⟩
  | succ m ih =>
    intro k n h0 h1 hm hk
    obtain ⟨k, rfl⟩ : ∃ j, k = j + 1 := ⟨k - 1, by omega⟩
    obtain ⟨x, hx⟩ := interest_some a n d
    simp only [spec_RateFor.l0]
    rw [if_pos (by omega), hx]
    simp only [Option.bind_some]
    by_cases h : wrap64 (a + x) ≥ p
    · rw [if_pos h]; exact ⟨_, rfl⟩
    · rw [if_neg h, show wrap64 (n + 1) = n + 1 by unfold wrap64; omega]
      exact ih k (n + 1) (by omega) (by omega) (by omega) (by omega)

theorem FnExactRateFor : laws_FnExactRateFor.Pure := by
  intro a p d _ _ _
  obtain ⟨r, hr⟩ := loop_ends a p d 1001 1008 0 (by omega) (by omega) (by omega) (by omega)
  have hr1 : Ev (fun k => spec_RateFor.l0 k a p d 0) r := Ev.of (fun k => (spec_RateFor.mono_l k).2 a p d 0) hr
  have hc : Ev (fun k => impl_rateCode.f k 0 1 [a, p] [d]) (if okAmount a && okAmount p && okDay d then 0 else 2) :=
    Ev.of (fun k => impl_rateCode.mono 0 1 [a, p] [d] k) (code_f 0 a p d)
  have hs : Ev (fun k => spec_RateFor.f k a p d) (if okAmount a && okAmount p && okDay d then r else (0, 0, 2)) := by
    refine Ev.congr (fun k => by unfold spec_RateFor.f; rw [amount_s, amount_s, day_s]) ?_
    cases okAmount a <;> cases okAmount p <;> cases okDay d <;> simp only [if_true, if_false, Bool.and_true, Bool.and_false, Bool.not_true, Bool.not_false, Bool.false_eq_true, Option.bind_some]
    all_goals first
      | exact Ev.step (fun k => by simp only [spec_RateFor.j0]; rfl) (Ev.now _)
      | exact Ev.step (fun k => by simp only [spec_RateFor.j0]; rfl) hr1
  have hi : Ev (fun k => impl_RateFor.f k a p d) (if okAmount a && okAmount p && okDay d then r else (0, 0, 2)) := by
    refine Ev.bind (f := fun k t125 => if t125 = 0 then impl_RateFor.l0 k a p d 0 else some (0, 0, t125)) hc ?_
    cases (okAmount a && okAmount p && okDay d)
    · exact Ev.now _
    · exact Ev.congr (fun k => loop_same a p d k 0) hr1
  refine Ev.rounds (r := true) ?_
  unfold laws_FnExactRateFor.f
  refine Ev.bind (f := fun k bt130 => ((impl_RateFor.f k a p d).bind fun bt134 => ((laws_eqRate.f bt134.1 bt134.2.1 bt130.1 bt130.2.1).bind fun t138 => (if t138 = true then (if bt134.2.2 = bt130.2.2 then (some true) else (some false)) else (some false))))) hs ?_
  refine Ev.bind hi ?_
  refine Ev.congr (fun k => ?_) (Ev.now true)
  simp [laws_eqRate.f]

end Go.Proofs.Ytnnllcdiacpkkaa.Pure
