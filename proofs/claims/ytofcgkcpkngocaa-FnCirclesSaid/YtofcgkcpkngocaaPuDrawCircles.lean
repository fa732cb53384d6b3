/- What is drawn from bytes. -/
import Derived.Test.YtofcgkcpkngocaaMCirclesx0
import Derived.Test.YtofcgkcpkngocaaMCirclesx14
import Derived.Test.YtofcgkcpkngocaaMCirclesx15
import Derived.Laws.BitsAllLaws
import Derived.Test.YtofcgkcpkngocaaVCirclesEv
import Derived.Test.YtofcgkcpkngocaaPuDebtCircles
namespace Go.Proofs.Ytofcgkcpkngocaa.PuDrawCircles
open Go.RowKit MCircles Go.Proofs.YtofcgkcpkngocaaW.PrintWords Go.Proofs.YtofcgkcpkngocaaW.PrintLast Evs PuDebtCircles
set_option linter.unusedVariables false
set_option linter.unusedSimpArgs false
def byteL (c : List Int) : Prop := c.length ≤ 100000 ∧ ∀ x ∈ c, 0 ≤ x ∧ x ≤ 255
theorem rd_byte {c : List Int} (h : byteL c) (i : Int) : 0 ≤ rd c i ∧ rd c i ≤ 255 := by
  show 0 ≤ c.getD i.toNat 0 ∧ c.getD i.toNat 0 ≤ 255
  by_cases hi : i.toNat < c.length
  · rw [getD_lt c 0 _ hi]; exact h.2 _ (List.getElem_mem hi)
  · rw [List.getD_eq_getElem?_getD, List.getElem?_eq_none o_]; simp
theorem u64w (x : Int) : 0 ≤ IntKind.u64.wrap x ∧ IntKind.u64.wrap x < 18446744073709551616 := by
  have e : IntKind.u64.wrap x = x % 18446744073709551616 := by
    simp [IntKind.wrap, IntKind.bits, IntKind.signed]
  rw [e]; omega
theorem and255 (x : Int) : 0 ≤ wrap64 (Go.bits .and .u64 (IntKind.u64.wrap x / 1099511627776) 255) ∧ wrap64 (Go.bits .and .u64 (IntKind.u64.wrap x / 1099511627776) 255) ≤ 255 := by
  have h := u64w x
  rw [u64_and _ _ o_ o_ o_ o_]
  have h2 : (IntKind.u64.wrap x / 1099511627776).toNat &&& (255 : Int).toNat ≤ (255 : Int).toNat := Nat.and_le_right
  have h3 : ((255 : Int).toNat) = 255 := rfl
  rw [h3] at h2 ⊢
  rw [wrap_id o_ o_]
  omega
theorem next_f {c : List Int} (h : byteL c) (i s : Int) (hi : 0 ≤ i) (hi2 : i ≤ 1000000) : ∃ b s2, spec_l00Src_next.f c i s = some (b, i + 1, s2) ∧ 0 ≤ b ∧ b ≤ 255 := by
  have hr := rd_byte h i
  have hw : wrap64 (rd c i) = rd c i := wrap_id o_ o_
  have hw2 : wrap64 (i + 1) = i + 1 := wrap_id o_ o_
  unfold spec_l00Src_next.f
  rw [hw2]
  by_cases h1 : i < (c.length : Int)
  · rw [if_pos h1, if_pos hi]
    by_cases h2 : i + 1 ≤ (c.length : Int)
    · rw [if_pos h2, hw]; exact ⟨_, _, rfl, hr.1, hr.2⟩
    · rw [if_neg h2]
      exact ⟨_, _, rfl, (and255 _).1, (and255 _).2⟩
  · rw [if_neg h1]
    by_cases h2 : i + 1 ≤ (c.length : Int)
    · rw [if_pos h2]; exact ⟨_, _, rfl, by omega, by omega⟩
    · rw [if_neg h2]
      exact ⟨_, _, rfl, (and255 _).1, (and255 _).2⟩
theorem pick_f {c : List Int} (h : byteL c) (i s n : Int) (hi : 0 ≤ i) (hi2 : i ≤ 1000000) (hn : 1 ≤ n) (hn2 : n ≤ 200) : ∃ x i2 s2, spec_l00Src_pick.f c i s n = some (x, i2, s2) ∧ 0 ≤ x ∧ x < n ∧ i ≤ i2 ∧ i2 ≤ i + 1 := by
  unfold spec_l00Src_pick.f
  by_cases h1 : n ≤ 1
  · rw [if_pos h1]; exact ⟨_, _, _, rfl, by omega, by omega, by omega, by omega⟩
  · rw [if_neg h1]
    obtain ⟨b, s2, e, hb, hb2⟩ := next_f h i s hi hi2
    rw [e]
    simp only [Option.bind_some]
    rw [if_neg o_, if_neg o_]
    refine ⟨_, _, _, rfl, ?_, ?_, by omega, by omega⟩
    · exact Int.tmod_nonneg _ hb
    · exact Int.tmod_lt_of_pos _ o_
theorem to_ok (a y p : Int) (hp : 2 ≤ p) (hp2 : p ≤ 6) (ha : 0 ≤ a) (ha2 : a < p) (hy : 0 ≤ y) (hy2 : y < p - 1) : 0 ≤ Int.tmod (wrap64 (wrap64 (a + 1) + y)) p ∧ Int.tmod (wrap64 (wrap64 (a + 1) + y)) p < p ∧ a ≠ Int.tmod (wrap64 (wrap64 (a + 1) + y)) p := by
  rw [wrap_id (x := a + 1) o_ o_, wrap_id o_ o_, Int.tmod_eq_emod_of_nonneg o_]
  have : p = 2 ∨ p = 3 ∨ p = 4 ∨ p = 5 ∨ p = 6 := by omega
  rcases this with rfl | rfl | rfl | rfl | rfl <;> refine ⟨?_, ?_, ?_⟩ <;> omega
def drawnD (p : Int) (d : D) : Prop := 0 ≤ d.f0 ∧ d.f0 < p ∧ 0 ≤ d.f1 ∧ d.f1 < p ∧ d.f0 ≠ d.f1 ∧ 1 ≤ d.f2 ∧ d.f2 ≤ 60
theorem drawn_loop {c : List Int} (h : byteL c) (p : Int) (hp : 2 ≤ p) (hp2 : p ≤ 6) : ∀ (n : Nat) (l : List D) (i s : Int), n ≤ 8 → l.length + n ≤ 8 → 0 ≤ i → i + 3 * n ≤ 1000 → (∀ d ∈ l, drawnD p d) →
    ∃ r i2 s2, Ev (fun k => spec_l02Drawn.l0 k p l (n : Int) c i s) (p, r, i2, s2) ∧ r.length ≤ 8 ∧ ∀ d ∈ r, drawnD p d := by
  intro n
  induction n with
  | zero =>
    intro l i s _ hl _ _ hd
    refine ⟨l, i, s, Ev.step (f := fun _ => some (p, l, i, s)) (fun k => ?_) (Ev.now _), by omega, hd⟩
    rw [spec_l02Drawn.l0, if_neg o_]
  | succ n ih =>
    intro l i s hn hl hi hi2 hd
    obtain ⟨a, i1, s1, e1, ha, ha2, hi1, hi1b⟩ := pick_f h i s p hi o_ o_ o_
    obtain ⟨y, i2, s2, e2, hy, hy2, hi2a, hi2b⟩ := pick_f h i1 s1 (p - 1) o_ o_ o_ o_
    obtain ⟨z, i3, s3, e3, hz, hz2, hi3, hi3b⟩ := pick_f h i2 s2 60 o_ o_ o_ o_
    have hto := to_ok a y p hp hp2 ha ha2 hy hy2
    have hz3 : wrap64 (1 + z) = 1 + z := wrap_id o_ o_
    have hw : wrap64 (((n + 1 : Nat) : Int) - 1) = (n : Int) := by rw [wrap_id o_ o_]; omega
    have hw2 : wrap64 (p - 1) = p - 1 := wrap_id o_ o_
    obtain ⟨r, j, t, e, hr, hrd⟩ := ih (l ++ [⟨a, Int.tmod (wrap64 (wrap64 (a + 1) + y)) p, wrap64 (1 + z)⟩]) i3 s3 o_ (by rw [List.length_append, List.length_singleton]; omega) o_ o_ (fun d hdm => by
        rcases List.mem_append.1 hdm with hm | hm
        · exact hd d hm
        · have hm2 := List.mem_singleton.1 hm
          subst hm2
          exact ⟨ha, ha2, hto.1, hto.2.1, hto.2.2, by simp only; omega, by simp only; omega⟩)
    have main : Ev (fun k => spec_l02Drawn.l0 k p l ((n + 1 : Nat) : Int) c i s) (p, r, j, t) := by
      refine Ev.step (fun k => by rw [spec_l02Drawn.l0, hw2]) ?_
      refine ev_pos o_ (ev_bind0 e1 (ev_bind0 e2 (ev_neg o_ (ev_bind0 e3 (ev_pos o_ ?_)))))
      rw [hw]; exact e
    exact ⟨r, j, t, main, hr, hrd⟩
theorem drawn_ev {c : List Int} (h : byteL c) : ∃ p l, Ev (fun k => spec_A2Debts.f k c) (p, l) ∧ 2 ≤ p ∧ p ≤ 6 ∧ l.length ≤ 8 ∧ ∀ d ∈ l, drawnD p d := by
  unfold spec_A2Debts.f
  obtain ⟨x, i1, s1, e1, hx, hx2, hi1, hi1b⟩ := pick_f h 0 0 5 o_ o_ o_ o_
  obtain ⟨n, i2, s2, e2, hn, hn2, hi2, hi2b⟩ := pick_f h i1 s1 9 o_ o_ o_ o_
  have hw : wrap64 (2 + x) = 2 + x := wrap_id o_ o_
  obtain ⟨r, j, t, e, hr, hrd⟩ := drawn_loop h (2 + x) o_ o_ n.toNat [] i2 s2 o_ (by simp; omega) o_ o_ (by simp)
  rw [show ((n.toNat : Nat) : Int) = n by omega] at e
  refine ⟨2 + x, r, ev_bind0 (a := (c, 0, 0)) rfl (Ev.bind (a := (2 + x, r, j, t)) ?_ (Ev.now _)), by omega, by omega, hr, hrd⟩
  unfold spec_l02Drawn.f
  refine ev_bind0 e1 (ev_bind0 e2 ?_)
  dsimp only
  rw [hw]; exact e
theorem drawn_valid {p : Int} {l : List D} (hp : 2 ≤ p) (hp2 : p ≤ 6) (hl : l.length ≤ 8) (hd : ∀ d ∈ l, drawnD p d) : valid p l = true := by
  unfold valid
  rw [Bool.and_eq_true, decide_eq_true_eq, List.all_eq_true]
  refine ⟨⟨by omega, by omega, by omega⟩, fun d hm => okD_true ?_⟩
  have := hd d hm
  unfold drawnD at this
  omega
end Go.Proofs.Ytofcgkcpkngocaa.PuDrawCircles
