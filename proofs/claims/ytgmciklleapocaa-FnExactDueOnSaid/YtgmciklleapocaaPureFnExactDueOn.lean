/- For all loans and days the program's DueOn returns what the reference's returns; no condition. -/
import Derived.Test.YtgmciklleapocaaMSx0
import Derived.Test.YtgmciklleapocaaMSx1
import Derived.Test.YtgmciklleapocaaMSx2
import Derived.Test.YtgmciklleapocaaMSx3
import Derived.Test.YtgmciklleapocaaMSx4
import Derived.Test.YtgmciklleapocaaEv
namespace Go.Proofs.Ytgmciklleapocaa.Pure
open Go.RowKit Go.Proofs.Ytgmciklleapocaa.MS Go.Proofs.YtgmciklleapocaaW.PrintWords Go.Proofs.YtgmciklleapocaaW.PrintLast Go.Proofs.Ytgmciklleapocaa.Evs
set_option linter.unusedVariables false
set_option linter.unusedSimpArgs false

def okAmount (a : Int) : Bool := decide (0 ≤ a ∧ a ≤ 100000000)
def okDay (a : Int) : Bool := decide (0 ≤ a ∧ a ≤ 40000)
theorem amount_i (a : Int) : impl_isAmount.f a = some (okAmount a) := by
  unfold impl_isAmount.f okAmount
  by_cases h : a ≥ 0 <;> simp [h, show (0 ≤ a) = (a ≥ 0) from rfl]
theorem day_i (a : Int) : impl_isDay.f a = some (okDay a) := by
  unfold impl_isDay.f okDay
  by_cases h : a ≥ 0 <;> simp [h, show (0 ≤ a) = (a ≥ 0) from rfl]
theorem amount_s (a : Int) : spec_l03Amount.f a = some (okAmount a) := by
  unfold spec_l03Amount.f spec_l00In.f okAmount
  by_cases h : a ≥ 0 <;> simp [h, show (0 ≤ a) = (a ≥ 0) from rfl]
theorem day_s (a : Int) : spec_l03Day.f a = some (okDay a) := by
  unfold spec_l03Day.f spec_l00In.f okDay
  by_cases h : a ≥ 0 <;> simp [h, show (0 ≤ a) = (a ≥ 0) from rfl]

def okRate (a b : Int) : Bool := decide (1 ≤ b ∧ b ≤ 10000 ∧ 0 ≤ a ∧ a ≤ b)
theorem rate_s (a b : Int) : spec_l03Rate.f a b = some (okRate a b) := by
  unfold spec_l03Rate.f spec_l00In.f okRate
  by_cases h1 : b ≥ 1
  · by_cases h2 : b ≤ 10000
    · by_cases h3 : a ≥ 0
      · simp [h1, h2, h3, show 1 ≤ b from h1, show 0 ≤ a from h3]
      · simp [h1, h2, h3, show ¬ 0 ≤ a from h3]
    · simp [h1, h2]
  · simp [h1, show ¬ 1 ≤ b from h1]
theorem rate_i (a b : Int) : impl_ValidRate.f a b = some (okRate a b) := by
  unfold impl_ValidRate.f okRate
  by_cases h1 : b ≥ 1
  · by_cases h2 : b ≤ 10000
    · by_cases h3 : a ≥ 0
      · simp [h1, h2, h3, show 1 ≤ b from h1, show 0 ≤ a from h3]
      · simp [h1, h2, h3, show ¬ 0 ≤ a from h3]
    · simp [h1, h2]
  · simp [h1, show ¬ 1 ≤ b from h1]

def told (n : Int) : Int × Int := if n > 100000000 then (0, 3) else (n, 0)
theorem told_s (n : Int) : spec_l03Told.f n = some (told n) := by unfold spec_l03Told.f told; split <;> rfl
theorem told_i (n : Int) : impl_limited.f n = some (told n) := by unfold impl_limited.f told; split <;> rfl
theorem interest_some (a n e d : Int) (h : okRate n e = true) : ∃ x, spec_l03Interest.f a n e d = some x ∧ impl_interest.f a n e d = some x := by
  have g := of_decide_eq_true h
  unfold spec_l03Interest.f impl_interest.f
  rw [wrap_id (x := e * 365) (by omega) (by omega), if_neg (by omega)]
  exact ⟨_, rfl, rfl⟩
theorem over (n e v z : Int) (h : v > 100000000) (x2 : Int) : Ev (fun k => impl_grown.l0 k v x2 z n e) v := by
  refine Ev.step (f := fun _ => some v) (fun k => ?_) (Ev.now _)
  simp only [impl_grown.l0]
  by_cases h2 : x2 ≥ z
  · rw [if_pos h2, if_neg (by omega), if_pos h]
  · rw [if_neg h2, if_pos h]
theorem grown_ev (n e v : Int) (hr : okRate n e = true) (hv : 0 < v) (hv2 : v ≤ 40000) : ∀ (d : Nat) (x2 : Int), x2.toNat ≤ d → 0 ≤ x2 → x2 ≤ 40000 → ∀ x0 : Int, x0 ≤ 100000000 →
    ∃ r, Ev (fun k => spec_l03Grown.l0 k x0 x2 v n e) (told r) ∧ Ev (fun k => impl_grown.l0 k x0 x2 v n e) r := by
  intro d
  induction d with
  | zero =>
    intro x2 hd h0 h1 x0 hx
    obtain ⟨x, hs, hi⟩ := interest_some x0 n e x2 hr
    refine ⟨wrap64 (x0 + x), Ev.step (f := fun _ => some (told (wrap64 (x0 + x)))) (fun k => ?_) (Ev.now _), Ev.step (f := fun _ => some (wrap64 (x0 + x))) (fun k => ?_) (Ev.now _)⟩
    · simp only [spec_l03Grown.l0]; rw [if_neg (by omega), hs]; simp only [Option.bind_some, told_s]
    · simp only [impl_grown.l0]; rw [if_neg (by omega), if_neg (by omega), hi]; simp only [Option.bind_some]
  | succ d ih =>
    intro x2 hd h0 h1 x0 hx
    by_cases h2 : x2 ≥ v
    · obtain ⟨x, hs, hi⟩ := interest_some x0 n e v hr
      have hw : wrap64 (x2 - v) = x2 - v := wrap_id (by omega) (by omega)
      by_cases h3 : wrap64 (x0 + x) > 100000000
      · refine ⟨wrap64 (x0 + x), Ev.step (f := fun _ => some (told (wrap64 (x0 + x)))) (fun k => ?_) (Ev.now _), Ev.step (f := fun k => impl_grown.l0 k (wrap64 (x0 + x)) (x2 - v) v n e) (fun k => ?_) (over n e _ _ h3 _)⟩
        · simp only [spec_l03Grown.l0]; rw [if_pos h2, hs]; simp only [Option.bind_some, told_s, told]; rw [if_pos h3]; rfl
        · simp only [impl_grown.l0]; rw [if_pos h2, if_pos hx, hi, hw]; simp only [Option.bind_some]
      · obtain ⟨r, h4, h5⟩ := ih (x2 - v) (by omega) (by omega) (by omega) (wrap64 (x0 + x)) (by omega)
        refine ⟨r, Ev.step (fun k => ?_) h4, Ev.step (fun k => ?_) h5⟩
        · simp only [spec_l03Grown.l0]; rw [if_pos h2, hs]; simp only [Option.bind_some, told_s, told]; rw [if_neg h3, if_pos rfl, hw]
        · simp only [impl_grown.l0]; rw [if_pos h2, if_pos hx, hi, hw]; simp only [Option.bind_some]
    · obtain ⟨x, hs, hi⟩ := interest_some x0 n e x2 hr
      refine ⟨wrap64 (x0 + x), Ev.step (f := fun _ => some (told (wrap64 (x0 + x)))) (fun k => ?_) (Ev.now _), Ev.step (f := fun _ => some (wrap64 (x0 + x))) (fun k => ?_) (Ev.now _)⟩
      · simp only [spec_l03Grown.l0]; rw [if_neg h2, hs]; simp only [Option.bind_some, told_s]
      · simp only [impl_grown.l0]; rw [if_neg h2, if_neg (by omega), hi]; simp only [Option.bind_some]
theorem grownF_ev (a n e d v : Int) (hr : okRate n e = true) (hv : 0 ≤ v) (hv2 : v ≤ 40000) (hd : 0 ≤ d) (hd2 : d ≤ 40000) (ha : a ≤ 100000000) :
    ∃ r, Ev (fun k => spec_l03Grown.f k a n e d v) (told r) ∧ Ev (fun k => impl_grown.f k a n e d v) r := by
  unfold spec_l03Grown.f impl_grown.f
  by_cases h : v = 0
  · obtain ⟨x, hs, hi⟩ := interest_some a n e d hr
    refine ⟨wrap64 (a + x), ev_pos h (ev_bind0 hs (ev_bind0 (told_s _) (Ev.now _))), ev_neg (by omega) (ev_neg (by omega) (ev_bind0 hi (Ev.now _)))⟩
  · obtain ⟨r, h4, h5⟩ := grown_ev n e v hr (by omega) hv2 d.toNat d (Nat.le_refl _) hd hd2 a ha
    exact ⟨r, ev_neg h h4, ev_pos (by omega) h5⟩
theorem in_s (a b c : Int) : spec_l00In.f a b c = some (decide (b ≤ a ∧ a ≤ c)) := by
  unfold spec_l00In.f
  by_cases h : a ≥ b
  · rw [if_pos h]; congr 1; simp [show b ≤ a from h]
  · rw [if_neg h]; congr 1; simp [show ¬ b ≤ a from h]
theorem FnExactDueOn (a b c d e : Int) (y : Int) (_ : (Lit.int .i64 a).wf = true) (_ : (Lit.int .i64 b).wf = true) (_ : (Lit.int .i64 c).wf = true) (_ : (Lit.int .i64 d).wf = true) (_ : (Lit.int .i64 e).wf = true) (_ : (Lit.int .i64 y).wf = true) : ∃ k, laws_FnExactDueOn.f k a b c d e y = some true := by
  have key : ∃ r, Ev (fun k => spec_DueOn.f k a b c d e y) r ∧ Ev (fun k => impl_DueOn.f k a b c d e y) r := by
    unfold spec_DueOn.f impl_DueOn.f spec_l03Ok.f impl_ValidLoan.f
    simp only [amount_i, day_i, amount_s, day_s, rate_s, rate_i, in_s, Option.bind_some]
    by_cases h : okAmount a = true ∧ okDay b = true ∧ okRate c d = true ∧ okDay e = true
    · obtain ⟨h1, h2, h3, h4⟩ := h
      have g1 := of_decide_eq_true h1
      have g2 := of_decide_eq_true h2
      have g4 := of_decide_eq_true h4
      simp only [h1, h2, h3, h4, if_true, Option.bind_some]
      have hj : ∀ (x : Bool) k, impl_DueOn.j0 (k + 1) y x a b c d e = if x = true then some (0, 2) else (impl_grown.f k a c d (wrap64 (y - b)) e).bind fun t149 => (impl_limited.f t149).bind fun bt150 => some (bt150.1, bt150.2) := fun x k => by simp only [impl_DueOn.j0]
      by_cases hy : okDay y = true
      · have gy := of_decide_eq_true hy
        by_cases hb : y < b
        · refine ⟨(0, 2), ev_neg (by simp; omega) (Ev.now _), ev_pos hy (Ev.step (f := fun _ => some (0, 2)) (fun k => ?_) (Ev.now _))⟩
          rw [hj, if_pos (by simpa using hb)]
        · obtain ⟨r, h5, h6⟩ := grownF_ev a c d (y - b) e h3 (by omega) (by omega) (by omega) (by omega) (by omega)
          have hw : wrap64 (y - b) = y - b := wrap_id (by omega) (by omega)
          rw [hw]
          refine ⟨told r, ev_pos (by simp; omega) (Ev.bind h5 (Ev.now _)), ev_pos hy (Ev.step (fun k => ?_) (Ev.bind (f := fun _ t => (impl_limited.f t).bind fun b => some (b.1, b.2)) h6 (ev_bind0 (told_i r) (Ev.now _))))⟩
          rw [hj, if_neg (by simpa using hb), hw]
      · have gy := of_decide_eq_false (Bool.eq_false_iff.mpr hy)
        refine ⟨(0, 2), ev_neg (by simp; omega) (Ev.now _), ev_neg hy (Ev.step (f := fun _ => some (0, 2)) (fun k => ?_) (Ev.now _))⟩
        rw [hj]; rfl
    · refine ⟨(0, 1), ?_, ?_⟩
      all_goals
        by_cases h1 : okAmount a = true
        · by_cases h2 : okDay b = true
          · by_cases h3 : okRate c d = true
            · have h4 : ¬ okDay e = true := fun h4 => h ⟨h1, h2, h3, h4⟩
              simp only [h1, h2, h3, Bool.eq_false_iff.mpr h4, if_true, Option.bind_some]; exact Ev.now _
            · simp only [h1, h2, Bool.eq_false_iff.mpr h3, if_true, Option.bind_some]; exact Ev.now _
          · simp only [h1, Bool.eq_false_iff.mpr h2, if_true, Option.bind_some]; exact Ev.now _
        · simp only [Bool.eq_false_iff.mpr h1, Option.bind_some]; exact Ev.now _
  obtain ⟨r, hs, hi⟩ := key
  refine Ev.rounds (r := true) ?_
  unfold laws_FnExactDueOn.f
  have ht : laws_toLoan.f a b c d e = some (a, b, c, d, e) := rfl
  refine ev_bind0 ht (Ev.bind hs (ev_bind0 ht (Ev.bind hi (ev_pos rfl (ev_pos rfl (Ev.now _))))))
end Go.Proofs.Ytgmciklleapocaa.Pure
