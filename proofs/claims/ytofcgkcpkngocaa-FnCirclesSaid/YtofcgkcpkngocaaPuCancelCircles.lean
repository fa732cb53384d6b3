/- Circles of debts that are cancelled: what the walks come to. -/
import Derived.Test.YtofcgkcpkngocaaMCirclesx0
import Derived.Test.YtofcgkcpkngocaaMCirclesx10
import Derived.Test.YtofcgkcpkngocaaMCirclesx11
import Derived.Test.YtofcgkcpkngocaaMCirclesx12
import Derived.Test.YtofcgkcpkngocaaMCirclesx13
import Derived.Test.YtofcgkcpkngocaaMCirclesx9
import Derived.Test.YtofcgkcpkngocaaVCirclesEv
import Derived.Test.YtofcgkcpkngocaaVCirclesArr
import Derived.Test.YtofcgkcpkngocaaPuDebtCircles
import Derived.Test.YtofcgkcpkngocaaPuTableCircles
import Derived.Test.YtofcgkcpkngocaaPuTableLCircles
import Derived.Test.YtofcgkcpkngocaaPuCircCircles
namespace Go.Proofs.Ytofcgkcpkngocaa.PuCancelCircles
open Go.RowKit MCircles Go.Proofs.YtofcgkcpkngocaaW.PrintWords Go.Proofs.YtofcgkcpkngocaaW.PrintLast Go.Proofs.YtofcgkcpkngocaaW.PrintMore Evs PuDebtCircles PuTableCircles PuTableLCircles PuCircCircles
set_option linter.unusedVariables false
set_option linter.unusedSimpArgs false
def cellC (t : Tb) (c : List Int) (i : Nat) : Int := Arr.vrd2 16 t (c.getD i 0) (c.getD ((i + 1) % c.length) 0)
def stepC (c : List Int) (m : Int) (t : Tb) (i : Nat) : Tb := Arr.vst2 16 t (c.getD i 0) (c.getD ((i + 1) % c.length) 0) (wrap64 (cellC t c i - m))
def cancelF (c : List Int) (m : Int) (i : Nat) (t : Tb) : Tb := (List.range' i (c.length - i)).foldl (stepC c m) t
def cancelT (t : Tb) (c : List Int) (m : Int) : Tb := cancelF c m 0 t
theorem range'_at (i n : Nat) (h : i < n) : List.range' i (n - i) = i :: List.range' (i + 1) (n - (i + 1)) := by
  rw [show n - i = (n - (i + 1)) + 1 by omega, List.range'_succ]
theorem range'_end (n : Nat) : List.range' n (n - n) = [] := by rw [Nat.sub_self]; rfl
theorem cancelF_step (c : List Int) (m : Int) (i : Nat) (t : Tb) (h : i < c.length) : cancelF c m i t = cancelF c m (i + 1) (stepC c m t i) := by
  unfold cancelF; rw [range'_at i _ h]; rfl
theorem cancelF_end (c : List Int) (m : Int) (t : Tb) : cancelF c m c.length t = t := by
  unfold cancelF; rw [range'_end]; rfl
def lstI (x y : Int) : Int := if x < 0 then y else if y < x then y else x
def leastF (t : Tb) (c : List Int) (i : Nat) (x : Int) : Int := (List.range' i (c.length - i)).foldl (fun x i => lstI x (cellC t c i)) x
theorem leastF_step (t : Tb) (c : List Int) (i : Nat) (x : Int) (h : i < c.length) : leastF t c i x = leastF t c (i + 1) (lstI x (cellC t c i)) := by
  unfold leastF; rw [range'_at i _ h]; rfl
theorem leastF_end (t : Tb) (c : List Int) (x : Int) : leastF t c c.length x = x := by
  unfold leastF; rw [range'_end]; rfl
def leastI (t : Tb) (c : List Int) : Int := leastF t c 0 (-1)
def leastG (t : Tb) (c : List Int) (i : Nat) (x : Int) : Int := (List.range' i (c.length - 1 - i)).foldl (fun x i => mn x (cellC t c i)) x
theorem leastG_step (t : Tb) (c : List Int) (i : Nat) (x : Int) (h : i < c.length - 1) : leastG t c i x = leastG t c (i + 1) (mn x (cellC t c i)) := by
  unfold leastG; rw [range'_at i _ h]; rfl
theorem leastG_end (t : Tb) (c : List Int) (x : Int) : leastG t c (c.length - 1) x = x := by
  unfold leastG; rw [range'_end]; rfl
def leastS (t : Tb) (c : List Int) : Int := leastG t c 0 (cellC t c (c.length - 1))
def in16 (c : List Int) : Prop := ∀ x ∈ c, 0 ≤ x ∧ x < 16
theorem at16 {c : List Int} (h : in16 c) (i : Nat) (hi : i < c.length) : 0 ≤ c.getD i 0 ∧ c.getD i 0 < 16 := by
  rw [getD_lt c 0 i hi]; exact h _ (List.getElem_mem hi)
theorem tmod_up {i n : Nat} (h : i < n) (hn : n ≤ 9223372036854775807) : Int.tmod (wrap64 ((i : Int) + 1)) (n : Int) = (((i + 1) % n : Nat) : Int) := by
  rw [wrap_up h hn, show ((i : Int) + 1) = ((i + 1 : Nat) : Int) by omega]; exact (Int.ofNat_tmod (i + 1) n).symm
theorem rd_n (c : List Int) (i : Nat) : rd c (i : Int) = c.getD i 0 := rfl
theorem cancelI_ev (t : Tb) (c : List Int) (hc : in16 c) (hl : c.length ≤ maxLen) : Ev (fun k => impl_sums_cancel.f k t c) (leastI t c, cancelT t c (leastI t c)) := by
  unfold impl_sums_cancel.f leastI; unfold maxLen at hl
  have second : ∀ (m : Int) (t : Tb), Ev (fun k => impl_sums_cancel.l1 k c m c (c.length : Int) 0 t) (m, cancelT t c m) := by
    intro m t; refine ev_for (n := c.length) (G := fun k (t : Tb) i => impl_sums_cancel.l1 k c m c (c.length : Int) i t) (F := fun t i => (m, cancelF c m i t)) (fun i hi ih t => ?_) (fun t => ?_) 0 o_ t
    · show Ev _ (m, cancelF c m i t); have h1 := at16 hc i hi; have hm : (i + 1) % c.length < c.length := Nat.mod_lt _ o_; have h2 := at16 hc _ hm; rw [cancelF_step c m i t hi]; refine Ev.step (fun k => by rw [impl_sums_cancel.l1, tmod_up hi o_, rd_n, rd_n, wrap_up hi o_]) ?_; exact ev_pos o_ (ev_pos o_ (ev_pos o_ (ev_neg o_ (ev_pos o_ (ev_pos o_ (ev_pos h1.1 (ev_pos h1.2 (ev_pos h2.1 (ev_pos h2.2 (ih (stepC c m t i)))))))))))
    · show Ev _ (m, cancelF c m c.length t); rw [cancelF_end]; refine Ev.step (f := fun _ => some (m, t)) (fun k => ?_) (Ev.now _); rw [impl_sums_cancel.l1, if_neg o_]
  refine ev_for (n := c.length) (G := fun k (x : Int) i => impl_sums_cancel.l0 k c x c (c.length : Int) i t) (F := fun x i => (leastF t c i x, cancelT t c (leastF t c i x))) (fun i hi ih x => ?_) (fun x => ?_) 0 o_ (-1)
  · show Ev _ (leastF t c i x, cancelT t c (leastF t c i x)); have h1 := at16 hc i hi; have hm : (i + 1) % c.length < c.length := Nat.mod_lt _ o_; have h2 := at16 hc _ hm; rw [leastF_step t c i x hi]; refine Ev.step (fun k => by rw [impl_sums_cancel.l0, tmod_up hi o_, rd_n, rd_n, wrap_up hi o_]) ?_; refine ev_pos o_ (ev_pos o_ (ev_pos o_ (ev_neg o_ (ev_pos o_ (ev_pos o_ (ev_pos h1.1 (ev_pos h1.2 (ev_pos h2.1 (ev_pos h2.2 ?_))))))))); unfold lstI; by_cases hx : x < 0
    · rw [if_pos hx]; exact ev_pos hx (ih _)
    · rw [if_neg hx]; refine ev_neg hx ?_; by_cases hy : cellC t c i < x
      · rw [if_pos hy]; exact ev_pos hy (ih _)
      · rw [if_neg hy]; exact ev_neg hy (ih _)
  · show Ev _ (leastF t c c.length x, cancelT t c (leastF t c c.length x)); rw [leastF_end]; refine Ev.step (fun k => by rw [impl_sums_cancel.l0]) (ev_neg o_ (second x t))
theorem min_mn (a b : Int) : spec_l00Min.f a b = some (mn a b) := by
  unfold spec_l00Min.f mn; by_cases h : a < b
  · rw [if_pos h]; (repeat' split) <;> first | rfl | (congr 1; omega)
  · rw [if_neg h]; (repeat' split) <;> first | rfl | (congr 1; omega)
theorem leastS_ev (t : Tb) (c : List Int) (hc : in16 c) (hl : c.length ≤ maxLen) (hp : 0 < c.length) : Ev (fun k => spec_l02Least.f k t c) (leastS t c, t) := by
  unfold spec_l02Least.f leastS; unfold maxLen at hl; (have e1 : wrap64 ((c.length : Int) - 1) = ((c.length - 1 : Nat) : Int) := by rw [wrap_id o_ o_]; omega); have e2 : rd c 0 = c.getD 0 0 := rfl; rw [e1, rd_n, e2]; have h1 := at16 hc (c.length - 1) o_; have h2 := at16 hc 0 hp; refine ev_pos o_ (ev_pos o_ (ev_pos o_ (ev_pos h1.1 (ev_pos h1.2 (ev_pos h2.1 (ev_pos h2.2 ?_))))))
  have e3 : Arr.vrd2 16 t (c.getD (c.length - 1) 0) (c.getD 0 0) = cellC t c (c.length - 1) := by
    unfold cellC; rw [show c.length - 1 + 1 = c.length by omega, Nat.mod_self]
  rw [e3]; refine ev_for (n := c.length - 1) (G := fun k (x : Int) i => spec_l02Least.l0 k c (c.length : Int) x i t) (F := fun x i => (leastG t c i x, t)) (fun i hi ih x => ?_) (fun x => ?_) 0 o_ _
  · show Ev _ (leastG t c i x, t); have h3 := at16 hc i o_; have h4 := at16 hc (i + 1) o_; rw [leastG_step t c i x hi]; have e4 : (i + 1) % c.length = i + 1 := Nat.mod_eq_of_lt o_; refine Ev.step (fun k => by rw [spec_l02Least.l0, wrap_up hi o_, show ((i : Int) + 1) = ((i + 1 : Nat) : Int) by omega, rd_n, rd_n]) ?_; refine ev_pos o_ (ev_pos o_ (ev_pos o_ (ev_pos o_ (ev_pos o_ (ev_pos h3.1 (ev_pos h3.2 (ev_pos h4.1 (ev_pos h4.2 (ev_bind0 (min_mn _ _) ?_))))))))); have := ih (mn x (cellC t c i)); unfold cellC at this; rw [e4] at this; unfold cellC; rw [e4]; exact this
  · show Ev _ (leastG t c (c.length - 1) x, t); rw [leastG_end]; refine Ev.step (f := fun _ => some (x, t)) (fun k => ?_) (Ev.now _); rw [spec_l02Least.l0, wrap_id o_ o_, if_neg o_]
theorem cancelS_ev (t : Tb) (c : List Int) (m : Int) (hc : in16 c) (hl : c.length ≤ maxLen) : Ev (fun k => spec_l02Cancel.f k t c m) (cancelT t c m) := by
  unfold spec_l02Cancel.f; unfold maxLen at hl; refine ev_for (n := c.length) (G := fun k (t : Tb) i => spec_l02Cancel.l0 k c m (c.length : Int) i t) (F := fun t i => cancelF c m i t) (fun i hi ih t => ?_) (fun t => ?_) 0 o_ t
  · show Ev _ (cancelF c m i t); have h1 := at16 hc i hi; have hm : (i + 1) % c.length < c.length := Nat.mod_lt _ o_; have h2 := at16 hc _ hm; rw [cancelF_step c m i t hi]; refine Ev.step (fun k => by rw [spec_l02Cancel.l0, tmod_up hi o_, rd_n, rd_n, wrap_up hi o_]) ?_; exact ev_pos o_ (ev_pos o_ (ev_pos o_ (ev_neg o_ (ev_pos o_ (ev_pos o_ (ev_pos h1.1 (ev_pos h1.2 (ev_pos h2.1 (ev_pos h2.2 (ih (stepC c m t i)))))))))))
  · show Ev _ (cancelF c m c.length t); rw [cancelF_end]; refine Ev.step (f := fun _ => some t) (fun k => ?_) (Ev.now _); rw [spec_l02Cancel.l0, if_neg o_]
def newAt (c : List Int) (i : Nat) : Bool := !decide (c.getD i 0 ∈ c.take i)
def newsF (c : List Int) (i : Nat) : Bool := (List.range' i (c.length - i)).all (newAt c)
def debtsF (t : Tb) (c : List Int) (i : Nat) : Bool := (List.range' i (c.length - i)).all (fun i => newAt c i && !decide (cellC t c i = 0))
theorem newsF_step (c : List Int) (i : Nat) (h : i < c.length) : newsF c i = (newAt c i && newsF c (i + 1)) := by
  unfold newsF; rw [range'_at i _ h, List.all_cons]
theorem debtsF_step (t : Tb) (c : List Int) (i : Nat) (h : i < c.length) : debtsF t c i = ((newAt c i && !decide (cellC t c i = 0)) && debtsF t c (i + 1)) := by
  unfold debtsF; rw [range'_at i _ h, List.all_cons]
theorem newsF_end (c : List Int) : newsF c c.length = true := by unfold newsF; rw [range'_end]; rfl
theorem debtsF_end (t : Tb) (c : List Int) : debtsF t c c.length = true := by unfold debtsF; rw [range'_end]; rfl
def circI (t : Tb) (c : List Int) : Bool := debtsF t c 0 && decide ((c.length : Int) ≥ 2)
def roundS (c : List Int) : Bool := newsF c 0 && decide ((c.length : Int) ≥ 2)
theorem isCircleI_ev (t : Tb) (c : List Int) (hc : in16 c) (hl : c.length ≤ maxLen) : Ev (fun k => impl_sums_isCircle.f k t c) (circI t c, t) := by
  unfold impl_sums_isCircle.f circI; have hl0 := hl; unfold maxLen at hl; refine ev_for (n := c.length) (G := fun k (_ : Unit) i => impl_sums_isCircle.l0 k c c (c.length : Int) i t) (F := fun _ i => (debtsF t c i && decide ((c.length : Int) ≥ 2), t)) (fun i hi ih s => ?_) (fun s => ?_) 0 o_ ()
  · show Ev _ (debtsF t c i && decide ((c.length : Int) ≥ 2), t); have h1 := at16 hc i hi; have hm : (i + 1) % c.length < c.length := Nat.mod_lt _ o_; have h2 := at16 hc _ hm; rw [debtsF_step t c i hi]; refine Ev.step (fun k => by rw [impl_sums_isCircle.l0, tmod_up hi o_, rd_n, rd_n, wrap_up hi o_]) ?_; refine ev_pos o_ (ev_pos o_ (ev_pos o_ (ev_pos o_ (Ev.bind (contains_ev (c.take ((i : Int)).toNat) (c.getD i 0) (by rw [List.length_take]; unfold maxLen; omega)) ?_)))); have en : newAt c i = !decide (c.getD i 0 ∈ c.take ((i : Int)).toNat) := rfl; rw [en]; by_cases hn : c.getD i 0 ∈ c.take ((i : Int)).toNat
    · rw [decide_eq_true hn]; exact ev_pos rfl (Ev.now _)
    · rw [decide_eq_false hn]; refine ev_neg (by simp) (ev_neg o_ (ev_pos o_ (ev_pos o_ (ev_pos h1.1 (ev_pos h1.2 (ev_pos h2.1 (ev_pos h2.2 ?_))))))); by_cases hz : cellC t c i = 0
      · rw [decide_eq_true hz]; exact ev_pos hz (Ev.now _)
      · rw [decide_eq_false hz]; exact ev_neg hz (ev_eq (ih ()) (by simp))
  · show Ev _ (debtsF t c c.length && decide ((c.length : Int) ≥ 2), t); rw [debtsF_end]; refine Ev.step (f := fun _ => some (decide ((c.length : Int) ≥ 2), t)) (fun k => ?_) (ev_eq (Ev.now _) (by simp)); rw [impl_sums_isCircle.l0, if_neg o_]
theorem roundS_ev (c : List Int) (hl : c.length ≤ maxLen) : Ev (fun k => spec_l02Round.f k c) (roundS c) := by
  unfold spec_l02Round.f roundS; unfold maxLen at hl; refine ev_for (n := c.length) (G := fun k (_ : Unit) i => spec_l02Round.l0 k c i) (F := fun _ i => (newsF c i && decide ((c.length : Int) ≥ 2))) (fun i hi ih s => ?_) (fun s => ?_) 0 o_ ()
  · show Ev _ (newsF c i && decide ((c.length : Int) ≥ 2)); rw [newsF_step c i hi]; refine Ev.step (fun k => by rw [spec_l02Round.l0]) (ev_pos o_ ?_); refine ev_eq (ev_for (n := i) (G := fun k (_ : Unit) j => spec_l02Round.l1 k c (i : Int) j) (F := fun _ j => (!decide (c.getD i 0 ∈ (c.take i).drop j) && newsF c (i + 1) && decide ((c.length : Int) ≥ 2))) (fun j hj ih2 s => ?_) (fun s => ?_) 0 o_ ()) (by rw [List.drop_zero]; rfl)
    · show Ev _ (!decide (c.getD i 0 ∈ (c.take i).drop j) && newsF c (i + 1) && decide ((c.length : Int) ≥ 2)); (have hjl : j < (c.take i).length := by rw [List.length_take]; omega); (have hj2 : (c.take i)[j] = c.getD j 0 := by rw [List.getElem_take, getD_lt c 0 j o_]); rw [List.drop_eq_getElem_cons hjl, hj2]; refine Ev.step (fun k => by rw [spec_l02Round.l1, rd_n, rd_n, wrap_up hj o_]) ?_; refine ev_pos o_ (ev_pos o_ (ev_pos o_ (ev_pos o_ (ev_pos o_ ?_)))); by_cases he : c.getD j 0 = c.getD i 0
      · refine ev_pos he (ev_eq (Ev.now _) ?_); rw [decide_eq_true (by rw [he]; exact List.mem_cons_self ..)]; rfl
      · refine ev_neg he (ev_eq (ih2 ()) ?_)
        have e1 : (c.getD i 0 ∈ c.getD j 0 :: (c.take i).drop (j + 1)) ↔ c.getD i 0 ∈ (c.take i).drop (j + 1) := by
          rw [List.mem_cons]; exact ⟨fun z => z.elim (fun y => absurd y.symm he) id, .inr⟩
        simp only [e1]
    · show Ev _ (!decide (c.getD i 0 ∈ (c.take i).drop i) && newsF c (i + 1) && decide ((c.length : Int) ≥ 2)); rw [List.drop_eq_nil_of_le (by rw [List.length_take]; omega)]; refine Ev.step (fun k => by rw [spec_l02Round.l1, wrap_up hi o_]) (ev_neg o_ (ev_eq (ih ()) (by simp)))
  · show Ev _ (newsF c c.length && decide ((c.length : Int) ≥ 2)); rw [newsF_end]; refine Ev.step (f := fun _ => some (decide ((c.length : Int) ≥ 2))) (fun k => ?_) (ev_eq (Ev.now _) (by simp)); rw [spec_l02Round.l0, if_neg o_]
theorem mn_cases (a b : Int) : (mn a b = a ∧ a ≤ b) ∨ (mn a b = b ∧ b ≤ a) := by
  unfold mn; (repeat' split); all_goals omega
theorem fold_mn (f : Nat → Int) : ∀ (L : List Nat) (x : Int), L.foldl (fun x i => mn x (f i)) x ≤ x ∧ (∀ i ∈ L, L.foldl (fun x i => mn x (f i)) x ≤ f i) ∧ (L.foldl (fun x i => mn x (f i)) x = x ∨ ∃ i ∈ L, L.foldl (fun x i => mn x (f i)) x = f i)
  | [], x => ⟨Int.le_refl _, by simp, .inl rfl⟩
  | a :: L, x => by
    obtain ⟨h1, h2, h3⟩ := fold_mn f L (mn x (f a))
    have hm := mn_cases x (f a)
    rw [List.foldl_cons]
    refine ⟨by omega, fun i hi => ?_, ?_⟩
    · rcases List.mem_cons.1 hi with rfl | hi
      · omega
      · exact h2 i hi
    · rcases h3 with h3 | ⟨i, hi, h3⟩
      · rcases hm with hm | hm
        · exact .inl o_
        · exact .inr ⟨a, List.mem_cons_self .., by omega⟩
      · exact .inr ⟨i, List.mem_cons_of_mem _ hi, h3⟩
theorem fold_lst (f : Nat → Int) : ∀ (L : List Nat) (x : Int), 0 ≤ x → (∀ i ∈ L, 0 ≤ f i) → L.foldl (fun x i => lstI x (f i)) x = L.foldl (fun x i => mn x (f i)) x
  | [], x, _, _ => rfl
  | a :: L, x, hx, hf => by
    have ha := hf a (List.mem_cons_self ..)
    have e : lstI x (f a) = mn x (f a) := by
      have hm := mn_cases x (f a)
      unfold lstI
      repeat' split
      all_goals omega
    rw [List.foldl_cons, List.foldl_cons, e]
    exact fold_lst f L (mn x (f a)) (by have hm := mn_cases x (f a); omega) (fun i hi => hf i (List.mem_cons_of_mem _ hi))
def posC (t : Tb) (c : List Int) : Prop := ∀ i, i < c.length → 0 ≤ cellC t c i
theorem leastS_spec (t : Tb) (c : List Int) (hp : 0 < c.length) : (∀ i, i < c.length → leastS t c ≤ cellC t c i) ∧ ∃ i, i < c.length ∧ leastS t c = cellC t c i := by
  obtain ⟨h1, h2, h3⟩ := fold_mn (cellC t c) (List.range' 0 (c.length - 1 - 0)) (cellC t c (c.length - 1)); refine ⟨fun i hi => ?_, ?_⟩
  · by_cases hl : i = c.length - 1
    · rw [hl]; exact h1
    · exact h2 i (List.mem_range'_1.2 o_)
  · rcases h3 with h3 | ⟨i, hi, h3⟩
    · exact ⟨c.length - 1, by omega, h3⟩
    · exact ⟨i, by have := List.mem_range'_1.1 hi; omega, h3⟩
theorem leastI_spec (t : Tb) (c : List Int) (hp : 0 < c.length) (hn : posC t c) : (∀ i, i < c.length → leastI t c ≤ cellC t c i) ∧ ∃ i, i < c.length ∧ leastI t c = cellC t c i := by
  have e : leastI t c = (List.range' 1 (c.length - 1)).foldl (fun x i => mn x (cellC t c i)) (cellC t c 0) := by
    unfold leastI; rw [leastF_step t c 0 (-1) hp]; unfold leastF; rw [show lstI (-1) (cellC t c 0) = cellC t c 0 from if_pos o_]; exact fold_lst (cellC t c) _ _ (hn 0 hp) (fun i hi => hn i (by have := List.mem_range'_1.1 hi; omega))
  obtain ⟨h1, h2, h3⟩ := fold_mn (cellC t c) (List.range' 1 (c.length - 1)) (cellC t c 0); rw [e]; refine ⟨fun i hi => ?_, ?_⟩
  · by_cases hl : i = 0
    · rw [hl]; exact h1
    · exact h2 i (List.mem_range'_1.2 o_)
  · rcases h3 with h3 | ⟨i, hi, h3⟩
    · exact ⟨0, by omega, h3⟩
    · exact ⟨i, by have := List.mem_range'_1.1 hi; omega, h3⟩
theorem least_eq (t : Tb) (c : List Int) (hp : 0 < c.length) (hn : posC t c) : leastI t c = leastS t c := by
  obtain ⟨a1, i, hi, a2⟩ := leastI_spec t c hp hn; obtain ⟨b1, j, hj, b2⟩ := leastS_spec t c hp; have := a1 j hj; have := b1 i hi; omega
theorem circ_eq (t : Tb) (c : List Int) (hn : posC t c) : circI t c = (roundS c && !decide (leastS t c = 0)) := by
  unfold circI roundS; by_cases h2 : (c.length : Int) ≥ 2
  · (have hp : 0 < c.length := by omega); obtain ⟨b1, j, hj, b2⟩ := leastS_spec t c hp
    have e : debtsF t c 0 = (newsF c 0 && (List.range' 0 (c.length - 0)).all (fun i => !decide (cellC t c i = 0))) := by
      unfold debtsF newsF
      induction List.range' 0 (c.length - 0) with
      | nil => rfl
      | cons a L ih =>
        rw [List.all_cons, List.all_cons, List.all_cons, ih]; cases newAt c a <;> cases (!decide (cellC t c a = 0)) <;> cases (List.all L (newAt c)) <;> rfl
    have e2 : (List.range' 0 (c.length - 0)).all (fun i => !decide (cellC t c i = 0)) = !decide (leastS t c = 0) := by
      by_cases hz : leastS t c = 0
      · rw [decide_eq_true hz]; rw [Bool.not_true, List.all_eq_false]; exact ⟨j, List.mem_range'_1.2 o_, by simp; omega⟩
      · rw [decide_eq_false hz]; rw [show (!false) = true from rfl, List.all_eq_true]; intro i hi; have hi2 := List.mem_range'_1.1 hi; have h3 := hn j hj; have h4 := b1 i o_; (have : ¬ cellC t c i = 0 := by omega); simp [this]
    rw [e, e2, decide_eq_true h2, Bool.and_true, Bool.and_true]
  · rw [decide_eq_false h2, Bool.and_false, Bool.and_false, Bool.false_and]
def bdT (t : Tb) (m : Int) : Prop := ∀ a b, a < 16 → b < 16 → 0 ≤ tg t a b ∧ tg t a b ≤ m
theorem nn_vrd2 (t : Tb) (a b : Int) : Arr.vrd2 16 t a b = tg t a.toNat b.toNat := rfl
theorem addT_bd {t : Tb} {m : Int} (h : bdT t m) (hm : 0 ≤ m) (hm2 : m ≤ 1000000000000) (d : D) (h0 : 0 ≤ d.f0 ∧ d.f0 < 16) (h1 : 0 ≤ d.f1 ∧ d.f1 < 16) (h2 : 1 ≤ d.f2 ∧ d.f2 ≤ 100000000) : bdT (addT t d) (m + 100000000) := by
  intro a b ha hb
  have e : addT t d = Arr.vst2 16 t ((d.f0.toNat : Nat) : Int) ((d.f1.toNat : Nat) : Int) (wrap64 (tg t d.f0.toNat d.f1.toNat + d.f2)) := by
    unfold addT; rw [nn_vrd2, show ((d.f0.toNat : Nat) : Int) = d.f0 by omega, show ((d.f1.toNat : Nat) : Int) = d.f1 by omega]
  have h3 := h d.f0.toNat d.f1.toNat o_ o_; have h4 := h a b ha hb; rw [e, tg_set t _ _ a b _ o_ o_ hb ha, wrap_id o_ o_]; split <;> omega
theorem foldT_bd : ∀ (l : List D) (t : Tb) (m : Int), bdT t m → 0 ≤ m → m + l.length * 100000000 ≤ 1000000000000 → (∀ d ∈ l, (0 ≤ d.f0 ∧ d.f0 < 16) ∧ (0 ≤ d.f1 ∧ d.f1 < 16) ∧ (1 ≤ d.f2 ∧ d.f2 ≤ 100000000)) → bdT (l.foldl addT t) (m + l.length * 100000000)
  | [], t, m, h, _, _, _ => by simpa using h
  | d :: l, t, m, h, hm, hl, hd => by
    obtain ⟨h0, h1, h2⟩ := hd d (List.mem_cons_self ..)
    rw [List.length_cons] at hl ⊢
    have := foldT_bd l (addT t d) (m + 100000000) (addT_bd h hm o_ d h0 h1 h2) o_ o_ (fun x hx => hd x (List.mem_cons_of_mem _ hx))
    rw [show m + ((l.length + 1 : Nat) : Int) * 100000000 = m + 100000000 + l.length * 100000000 by omega]
    exact this
theorem sumT_bd {p : Int} {l : List D} (hv : valid p l = true) : bdT (sumT l) 6000000000 := by
  obtain ⟨hp, hp2, h60, hd⟩ := valid_bd hv; have := foldT_bd l zeroT 0 (fun a b _ _ => by rw [tg_zero]; omega) o_ o_ (fun d hd1 => by have := hd d hd1; omega); intro a b ha hb; have h2 := this a b ha hb; unfold sumT; omega
theorem posC_of {t : Tb} {m : Int} (h : bdT t m) {c : List Int} (hc : in16 c) : posC t c := by
  intro i hi; have h1 := at16 hc i hi; have h2 := at16 hc ((i + 1) % c.length) (Nat.mod_lt _ o_); unfold cellC; rw [nn_vrd2]; exact (h _ _ o_ o_).1
def cancelR2 (t : Tb) (c : List Int) : List D × Int × Int :=
  if (listR t).2 = 0 then (if (listR (cancelT t c (leastS t c))).2 = 0 then ((listR (cancelT t c (leastS t c))).1, leastS t c, 0) else ([], 0, (listR (cancelT t c (leastS t c))).2)) else ([], 0, (listR t).2)
def cancelR (p : Int) (l : List D) (c : List Int) : List D × Int × Int :=
  if codeD p l c = 0 then (if (roundS c && !decide (leastS (sumT l) c = 0)) = true then cancelR2 (sumT l) c else ([], 0, 4)) else ([], 0, codeD p l c)
theorem codeD_valid {p : Int} {l : List D} {c : List Int} (hv : valid p l = true) : codeD p l c = if arePs p c = true then 0 else 2 := by unfold codeD; rw [if_pos hv]
theorem round_pos {c : List Int} (h : roundS c = true) : 0 < c.length := by
  unfold roundS at h; rw [Bool.and_eq_true] at h; have := of_decide_eq_true h.2; omega
theorem CancelS_ev (p : Int) (l : List D) (c : List Int) (hl : l.length ≤ maxLen) (hc : c.length ≤ maxLen) : Ev (fun k => spec_CancelCircle.f k p l c) (cancelR p l c) := by
  unfold spec_CancelCircle.f cancelR; have hc0 := hc; unfold maxLen at hc0; refine Ev.bind (l02Ok_ev p l hl) ?_; by_cases hv : valid p l = true
  · obtain ⟨hp, hp2, h60, hd⟩ := valid_bd hv; refine ev_pos hv ?_; rw [codeD_valid hv]; refine ev_eq (ev_forI (n := c.length) (G := fun k (_ : Unit) i => spec_CancelCircle.l0 k p l c i) (F := fun _ i => if arePs p (c.drop i) = true then (if (roundS c && !decide (leastS (sumT l) c = 0)) = true then cancelR2 (sumT l) c else ([], 0, 4)) else ([], 0, 2)) (I := fun _ i => arePs p (c.take i) = true) (fun i hi ih s hI => ?_) (fun s hI => ?_) 0 o_ () rfl) ?_
    · rw [arePs_drop p c i hi]; have hr : rd c (i : Int) = c[i] := getD_lt c _ i hi; refine Ev.step (fun k => by rw [spec_CancelCircle.l0, hr, wrap_up hi o_]) (ev_pos o_ (ev_pos o_ (ev_bind0 (l02Person_f p c[i] hp hp2) ?_))); have ek : okP p c[i] = decide (0 ≤ c[i] ∧ c[i] < p) := rfl; rw [ek]; by_cases hk : 0 ≤ c[i] ∧ c[i] < p
      · rw [decide_eq_true hk, Bool.true_and]; refine ev_pos rfl (ih () ?_); unfold arePs at hI ⊢; rw [List.take_succ_eq_append_getElem hi, List.all_append, hI, Bool.true_and, List.all_cons, ek, decide_eq_true hk]; rfl
      · rw [decide_eq_false hk, Bool.false_and]; exact ev_neg (by simp) (Ev.now _)
    · rw [List.drop_length]; rw [List.take_length] at hI
      have h16 : in16 c := by
        intro x hx; have := of_decide_eq_true (List.all_eq_true.1 hI x hx); omega
      refine Ev.step (fun k => by rw [spec_CancelCircle.l0]) (ev_neg o_ (Ev.bind (sumsS_ev p l hv) (Ev.bind (roundS_ev c hc) ?_))); refine ev_ifp rfl ?_; by_cases hr : roundS c = true
      · refine ev_pos hr (Ev.bind (leastS_ev _ c h16 hc (round_pos hr)) ?_); rw [hr, Bool.true_and]; by_cases hz : leastS (sumT l) c = 0
        · rw [decide_eq_true hz]; refine Ev.step (f := fun _ => some ([], 0, 4)) (fun k => ?_) (Ev.now _); rw [spec_CancelCircle.j1, if_pos (by simp [hz])]
        · rw [decide_eq_false hz]; refine ev_ifp rfl ?_; unfold cancelR2; refine Ev.step (fun k => by rw [spec_CancelCircle.j1]) (ev_neg (by simp [hz]) (Ev.bind (listS_ev _) ?_)); by_cases h1 : (listR (sumT l)).2 = 0
          · refine ev_ifp h1 (ev_pos h1 (Ev.bind (leastS_ev _ c h16 hc (round_pos hr)) (Ev.bind (cancelS_ev _ c _ h16 hc) (Ev.bind (listS_ev _) ?_)))); by_cases h2 : (listR (cancelT (sumT l) c (leastS (sumT l) c))).2 = 0
            · exact ev_ifp h2 (ev_pos h2 (Ev.now _))
            · exact ev_ifn h2 (ev_neg h2 (Ev.now _))
          · exact ev_ifn h1 (ev_neg h1 (Ev.now _))
      · rw [Bool.eq_false_iff.mpr hr, Bool.false_and]; refine ev_neg (by simp) (Ev.step (f := fun _ => some ([], 0, 4)) (fun k => ?_) (Ev.now _)); rw [spec_CancelCircle.j1, if_pos rfl]
    · rw [List.drop_zero]; by_cases ha : arePs p c = true
      · rw [if_pos ha, if_pos ha, if_pos rfl]
      · rw [if_neg ha, if_neg ha, if_neg (by decide)]
  · have e : codeD p l c = 1 := if_neg hv; rw [e]; exact ev_ifn (by decide) (ev_neg hv (Ev.now _))
theorem CancelI_ev (p : Int) (l : List D) (c : List Int) (hl : l.length ≤ maxLen) (hc : c.length ≤ maxLen) : Ev (fun k => impl_CancelCircle.f k p l c) (cancelR p l c) := by
  unfold impl_CancelCircle.f cancelR; refine Ev.bind (codeI_ev p l c hl hc) ?_; by_cases h : codeD p l c = 0
  · obtain ⟨hv, hw⟩ := code_zero h; obtain ⟨hp, hp2, h60, hd⟩ := valid_bd hv; (have h16 : in16 c := fun x hx => by have := hw x hx; omega); have hn := posC_of (sumT_bd hv) h16; refine ev_ifp h (ev_pos h (Ev.bind (sumsI_ev p l hv) (Ev.bind (isCircleI_ev _ c h16 hc) ?_))); rw [circ_eq _ c hn]; by_cases hr : (roundS c && !decide (leastS (sumT l) c = 0)) = true
    · have hp := round_pos ((Bool.and_eq_true _ _).mp hr).1; refine ev_ifp hr (ev_pos hr (Ev.bind (listI_ev _) ?_)); unfold cancelR2; by_cases h1 : (listR (sumT l)).2 = 0
      · refine ev_ifp h1 (ev_pos h1 (Ev.bind (cancelI_ev _ c h16 hc) (Ev.bind (listI_ev _) ?_))); dsimp only; rw [least_eq _ c hp hn]; by_cases h2 : (listR (cancelT (sumT l) c (leastS (sumT l) c))).2 = 0
        · exact ev_ifp h2 (ev_pos h2 (Ev.now _))
        · exact ev_ifn h2 (ev_neg h2 (Ev.now _))
      · exact ev_ifn h1 (ev_neg h1 (Ev.now _))
    · exact ev_ifn hr (ev_neg hr (Ev.now _))
  · exact ev_ifn h (ev_neg h (Ev.now _))
end Go.Proofs.Ytofcgkcpkngocaa.PuCancelCircles
