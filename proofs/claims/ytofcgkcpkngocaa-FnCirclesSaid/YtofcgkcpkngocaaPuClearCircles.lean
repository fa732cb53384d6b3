/- Circles of debts that are cleared: what is found is a circle, and cancelling it makes the debts less. -/
import Derived.Test.YtofcgkcpkngocaaMCirclesx0
import Derived.Test.YtofcgkcpkngocaaMCirclesx13
import Derived.Test.YtofcgkcpkngocaaVCirclesEv
import Derived.Test.YtofcgkcpkngocaaVCirclesArr
import Derived.Test.YtofcgkcpkngocaaPuDebtCircles
import Derived.Test.YtofcgkcpkngocaaPuTableCircles
import Derived.Test.YtofcgkcpkngocaaPuTableLCircles
import Derived.Test.YtofcgkcpkngocaaPuCircCircles
import Derived.Test.YtofcgkcpkngocaaPuCancelCircles
namespace Go.Proofs.Ytofcgkcpkngocaa.PuClearCircles
open Go.RowKit MCircles Go.Proofs.YtofcgkcpkngocaaW.PrintWords Go.Proofs.YtofcgkcpkngocaaW.PrintLast Go.Proofs.YtofcgkcpkngocaaW.PrintMore Evs PuDebtCircles PuTableCircles PuTableLCircles PuCircCircles PuCancelCircles
set_option linter.unusedVariables false
set_option linter.unusedSimpArgs false
def pathC (t : Tb) (l : List Int) : Prop := inT l ∧ l.Nodup ∧ ∀ i, i + 1 < l.length → 0 < tg t (l.getD i 0).toNat (l.getD (i + 1) 0).toNat
def goodC (t : Tb) (c : List Int) : Prop := inT c ∧ 2 ≤ c.length ∧ c.Nodup ∧ ∀ i, i < c.length → 0 < cellC t c i
theorem path_one (t : Tb) (i : Nat) (h : i < 16) : pathC t [(i : Int)] := ⟨inT_one i h, by simp, fun j hj => by simp at hj⟩
theorem getD_left (l : List Int) (x : Int) (i : Nat) (h : i < l.length) : (l ++ [x]).getD i 0 = l.getD i 0 := by
  rw [List.getD_eq_getElem?_getD, List.getD_eq_getElem?_getD, List.getElem?_append_left h]
theorem getD_right (l : List Int) (x : Int) : (l ++ [x]).getD l.length 0 = x := by
  rw [List.getD_eq_getElem?_getD, List.getElem?_append_right (Nat.le_refl _), Nat.sub_self]; rfl
theorem path_snoc {t : Tb} {m : Int} (hb : bdT t m) {l : List Int} (h : pathC t l) (k : Nat) (hk : k < 16) (h0 : ¬ tg t (lastOf l) k = 0) (hn : ¬ (k : Int) ∈ l) : pathC t (l ++ [(k : Int)]) := by
  obtain ⟨h1, h2, h3⟩ := h
  have hp := inT_pos h1
  refine ⟨inT_snoc h1 k hk, ?_, fun i hi => ?_⟩
  · rw [List.nodup_append]
    refine ⟨h2, by simp, fun a ha b hb2 => ?_⟩
    have := List.mem_singleton.1 hb2
    intro e
    exact hn (by rw [← this, ← e]; exact ha)
  · rw [List.length_append, List.length_singleton] at hi
    by_cases he : i + 1 < l.length
    · rw [getD_left l _ i o_, getD_left l _ (i + 1) he]
      exact h3 i he
    · have ei : i = l.length - 1 := by omega
      rw [getD_left l _ i o_, show i + 1 = l.length by omega, getD_right, ei]
      have e2 := hb (lastOf l) k (last_lt h1) hk
      show 0 < tg t (lastOf l) k
      omega
theorem goM_good {t : Tb} {m : Int} (hb : bdT t m) : ∀ (n : Nat) (l r : List Int), pathC t l → goM n t l = some r → goodC t r := by
  intro n
  induction n with
  | zero => intro l r _ h; cases h
  | succ n ih =>
    intro l r hp h
    unfold goM at h
    split at h
    · next h1 =>
      cases h
      refine ⟨hp.1, by omega, hp.2.1, fun i hi => ?_⟩
      unfold cellC
      rw [nn_vrd2]
      by_cases he : i + 1 < l.length
      · rw [Nat.mod_eq_of_lt he]
        exact hp.2.2 i he
      · have ei : i = l.length - 1 := by omega
        rw [show i + 1 = l.length by omega, Nat.mod_self, ei]
        exact h1.2
    · obtain ⟨k, hk, he⟩ := List.exists_of_findSome?_eq_some h
      split at he
      · cases he
      · next h2 =>
        have hk2 := List.mem_range'_1.1 hk
        have f16 := first_lt hp.1
        exact ih _ r (path_snoc hb hp k o_ (fun z => h2 (.inl z)) (fun z => h2 (.inr z))) he
theorem circleM_good {t : Tb} {m : Int} (hb : bdT t m) {c : List Int} (h : circleM t = some c) : goodC t c := by
  obtain ⟨k, hk, he⟩ := List.exists_of_findSome?_eq_some h
  have hk2 := List.mem_range'_1.1 hk
  exact goM_good hb 17 _ c (path_one t k o_) he
def tot (t : Tb) : Int := t.toList.sum
theorem sum_set : ∀ (l : List Int) (q : Nat) (y : Int), q < l.length → (l.set q y).sum = l.sum - l.getD q 0 + y
  | [], q, y, h => by simp at h
  | a :: l, 0, y, _ => by simp; omega
  | a :: l, q + 1, y, h => by
    have := sum_set l q y (by simpa using h)
    simp only [List.set_cons_succ, List.sum_cons, List.getD_cons_succ]
    omega
theorem tot_set (t : Tb) (a b : Nat) (ha : a < 16) (hb : b < 16) (y : Int) : tot (Arr.vst2 16 t (a : Int) (b : Int) y) = tot t - tg t a b + y := by
  unfold tot tg Arr.vst2
  rw [Vector.toList_setIfInBounds, Int.toNat_natCast, Int.toNat_natCast]
  exact sum_set _ _ _ (by simp; omega)
theorem sum_nn : ∀ (l : List Int), (∀ x ∈ l, 0 ≤ x) → 0 ≤ l.sum
  | [], _ => by simp
  | a :: l, h => by
    have h1 := h a (List.mem_cons_self ..)
    have h2 := sum_nn l (fun x hx => h x (List.mem_cons_of_mem _ hx))
    rw [List.sum_cons]; omega
theorem tot_nn {t : Tb} {m : Int} (h : bdT t m) : 0 ≤ tot t := by
  refine sum_nn _ (fun x hx => ?_)
  obtain ⟨q, hq, e⟩ := List.getElem_of_mem hx
  have hq2 : q < 256 := by simpa using hq
  have h1 := (h (q / 16) (q % 16) o_ o_).1
  unfold tg at h1
  rw [show q / 16 * 16 + q % 16 = q by omega, getD_lt _ 0 q hq, e] at h1
  exact h1
def eA (c : List Int) (j : Nat) : Nat := (c.getD j 0).toNat
def eB (c : List Int) (j : Nat) : Nat := (c.getD ((j + 1) % c.length) 0).toNat
def preT (c : List Int) (m : Int) (t : Tb) (j : Nat) : Tb := (List.range j).foldl (stepC c m) t
theorem preT_succ (c : List Int) (m : Int) (t : Tb) (j : Nat) : preT c m t (j + 1) = stepC c m (preT c m t j) j := by
  unfold preT; rw [List.range_succ, List.foldl_append]; rfl
theorem cancelT_pre (t : Tb) (c : List Int) (m : Int) : cancelT t c m = preT c m t c.length := by
  unfold cancelT cancelF preT
  rw [List.range_eq_range', Nat.sub_zero]
theorem cell_e (t : Tb) (c : List Int) (j : Nat) : cellC t c j = tg t (eA c j) (eB c j) := rfl
theorem step_e {c : List Int} (hc : in16 c) (m : Int) (t : Tb) (j : Nat) (hj : j < c.length) : stepC c m t j = Arr.vst2 16 t ((eA c j : Nat) : Int) ((eB c j : Nat) : Int) (wrap64 (cellC t c j - m)) := by
  have h1 := at16 hc j hj
  have h2 := at16 hc ((j + 1) % c.length) (Nat.mod_lt _ o_)
  unfold stepC eA eB
  rw [show (((c.getD j 0).toNat : Nat) : Int) = c.getD j 0 by omega, show (((c.getD ((j + 1) % c.length) 0).toNat : Nat) : Int) = c.getD ((j + 1) % c.length) 0 by omega]
theorem eA_ne {c : List Int} (hc : in16 c) (hd : c.Nodup) {i j : Nat} (hi : i < c.length) (hj : j < c.length) (h : i ≠ j) : eA c i ≠ eA c j := by
  have h1 := at16 hc i hi
  have h2 := at16 hc j hj
  unfold eA
  intro e
  have e2 : c.getD i 0 = c.getD j 0 := by omega
  rw [getD_lt c 0 i hi, getD_lt c 0 j hj] at e2
  rcases Nat.lt_or_gt_of_ne h with lt | gt
  · exact List.pairwise_iff_getElem.1 hd i j hi hj lt e2
  · exact List.pairwise_iff_getElem.1 hd j i hj hi gt e2.symm
theorem eA_lt {c : List Int} (hc : in16 c) {j : Nat} (hj : j < c.length) : eA c j < 16 ∧ eB c j < 16 := by
  have h1 := at16 hc j hj
  have h2 := at16 hc ((j + 1) % c.length) (Nat.mod_lt _ o_)
  unfold eA eB; omega
theorem pre_tg {t : Tb} {c : List Int} {M m : Int} (hg : goodC t c) (hb : bdT t M) (hM : M ≤ 1000000000000) (h0 : 0 ≤ m) (hm : ∀ i, i < c.length → m ≤ cellC t c i) (j : Nat) (hj : j ≤ c.length) :
    (∀ a b, a < 16 → b < 16 → (∀ i, i < j → ¬ (a = eA c i ∧ b = eB c i)) → tg (preT c m t j) a b = tg t a b) ∧ (∀ i, i < j → tg (preT c m t j) (eA c i) (eB c i) = cellC t c i - m) ∧ tot (preT c m t j) = tot t - j * m := by
  have hc : in16 c := hg.1.2
  induction j with
  | zero => exact ⟨fun _ _ _ _ _ => rfl, fun i hi => absurd hi o_, by simp [preT]⟩
  | succ j ih =>
    obtain ⟨h1, h2, h3⟩ := ih o_
    have hjl : j < c.length := by omega
    have el := eA_lt hc hjl
    have hne : ∀ i, i < j → ¬ (eA c j = eA c i ∧ eB c j = eB c i) := fun i hi z => eA_ne hc hg.2.2.1 hjl o_ o_ z.1
    have hold := h1 (eA c j) (eB c j) el.1 el.2 hne
    have hcell : cellC (preT c m t j) c j = cellC t c j := hold
    have hmj := hm j hjl
    have hbj := hb (eA c j) (eB c j) el.1 el.2
    have hv : wrap64 (cellC (preT c m t j) c j - m) = cellC t c j - m := by
      rw [hcell]
      have := cell_e t c j
      exact wrap_id o_ o_
    rw [preT_succ, step_e hc m _ j hjl, hv]
    refine ⟨fun a b ha hb2 hab => ?_, fun i hi => ?_, ?_⟩
    · rw [tg_set _ _ _ a b _ el.2 el.1 hb2 ha, if_neg (hab j o_)]
      exact h1 a b ha hb2 (fun i hi => hab i o_)
    · by_cases e : i = j
      · rw [e, tg_set _ _ _ _ _ _ el.2 el.1 el.2 el.1, if_pos ⟨rfl, rfl⟩]
      · have eli := eA_lt hc (show i < c.length by omega)
        rw [tg_set _ _ _ _ _ _ el.2 el.1 eli.2 eli.1, if_neg (fun z => hne i o_ ⟨z.1.symm, z.2.symm⟩)]
        exact h2 i o_
    · rw [tot_set _ _ _ el.1 el.2, hold, h3]
      have := cell_e t c j
      have e3 : ((j + 1 : Nat) : Int) * m = (j : Int) * m + m := by
        rw [show ((j + 1 : Nat) : Int) = (j : Int) + 1 by omega, Int.add_mul, Int.one_mul]
      omega
theorem good_pos {t : Tb} {c : List Int} (hg : goodC t c) : 0 < c.length := by have := hg.2.1; omega
theorem least_pos {t : Tb} {c : List Int} (hg : goodC t c) : 1 ≤ leastS t c := by
  obtain ⟨_, i, hi, e⟩ := leastS_spec t c (good_pos hg)
  have := hg.2.2.2 i hi
  omega
theorem cancel_le {t : Tb} {c : List Int} {M : Int} (hg : goodC t c) (hb : bdT t M) (hM : M ≤ 1000000000000) (a b : Nat) (ha : a < 16) (hb2 : b < 16) : 0 ≤ tg (cancelT t c (leastS t c)) a b ∧ tg (cancelT t c (leastS t c)) a b ≤ tg t a b := by
  have hs := leastS_spec t c (good_pos hg)
  have hp := least_pos hg
  obtain ⟨h1, h2, h3⟩ := pre_tg hg hb hM (show 0 ≤ leastS t c by omega) hs.1 c.length (Nat.le_refl _)
  rw [cancelT_pre]
  by_cases h : ∃ i, i < c.length ∧ (a = eA c i ∧ b = eB c i)
  · obtain ⟨i, hi, rfl, rfl⟩ := h
    rw [h2 i hi]
    have := hs.1 i hi
    have := cell_e t c i
    omega
  · rw [h1 a b ha hb2 (fun i hi z => h ⟨i, hi, z⟩)]
    have := hb a b ha hb2
    omega
theorem cancel_tot {t : Tb} {c : List Int} {M : Int} (hg : goodC t c) (hb : bdT t M) (hM : M ≤ 1000000000000) : tot (cancelT t c (leastS t c)) = tot t - c.length * leastS t c := by
  have hs := leastS_spec t c (good_pos hg)
  have hp := least_pos hg
  rw [cancelT_pre]
  exact (pre_tg hg hb hM (show 0 ≤ leastS t c by omega) hs.1 c.length (Nat.le_refl _)).2.2
end Go.Proofs.Ytofcgkcpkngocaa.PuClearCircles
