/- Circles of debts: which circle is found. -/
import Derived.Test.YtofcgkcpkngocaaMCancelCirclex0
import Derived.Test.YtofcgkcpkngocaaMCancelCirclex9
import Derived.Test.YtofcgkcpkngocaaVCancelCircleEv
import Derived.Test.YtofcgkcpkngocaaVCancelCircleArr
import Derived.Test.YtofcgkcpkngocaaPuDebtCancelCircle
import Derived.Test.YtofcgkcpkngocaaPuTableCancelCircle
import Derived.Test.YtofcgkcpkngocaaPuTableLCancelCircle
namespace Go.Proofs.Ytofcgkcpkngocaa.PuCircCancelCircle
open Go.RowKit Go.Proofs.Ytofcgkcpkngocaa.MCancelCircle Go.Proofs.YtofcgkcpkngocaaW.PrintWords Go.Proofs.YtofcgkcpkngocaaW.PrintLast Go.Proofs.YtofcgkcpkngocaaW.PrintMore Go.Proofs.Ytofcgkcpkngocaa.Evs Go.Proofs.Ytofcgkcpkngocaa.PuDebtCancelCircle Go.Proofs.Ytofcgkcpkngocaa.PuTableCancelCircle Go.Proofs.Ytofcgkcpkngocaa.PuTableLCancelCircle
set_option linter.unusedVariables false
set_option linter.unusedSimpArgs false
theorem countP_lt {α : Type} (p q : α → Bool) : ∀ (L : List α), (∀ a ∈ L, q a = true → p a = true) → (∃ a ∈ L, p a = true ∧ q a = false) → L.countP q < L.countP p
  | [], _, h => by obtain ⟨a, ha, _⟩ := h; cases ha
  | b :: L, h1, h2 => by
    have hle : L.countP q ≤ L.countP p := List.countP_mono_left (fun a ha => h1 a (List.mem_cons_of_mem _ ha))
    rw [List.countP_cons, List.countP_cons]
    obtain ⟨a, ha, hp, hq⟩ := h2
    rcases List.mem_cons.1 ha with rfl | ha2
    · rw [hp, hq]; simp; omega
    · have ih := countP_lt p q L (fun a ha => h1 a (List.mem_cons_of_mem _ ha)) ⟨a, ha2, hp, hq⟩
      have hb := h1 b (List.mem_cons_self ..)
      cases hqb : q b
      · simp; omega
      · rw [hb hqb]; simp; omega
def cnt (l : List Int) : Nat := (List.range 16).countP (fun (k : Nat) => decide ¬ ((k : Int) ∈ l))
theorem cnt_le (l : List Int) : cnt l ≤ 16 := by
  unfold cnt
  exact Nat.le_trans List.countP_le_length (by simp)
theorem cnt_snoc (l : List Int) (k : Nat) (hk : k < 16) (h : ¬ (k : Int) ∈ l) : cnt (l ++ [(k : Int)]) < cnt l := by
  unfold cnt
  refine countP_lt _ _ _ (fun a ha h1 => ?_) ⟨k, List.mem_range.2 hk, decide_eq_true h, decide_eq_false (by simp)⟩
  have h2 := of_decide_eq_true h1
  exact decide_eq_true (fun z => h2 (List.mem_append.2 (Or.inl z)))
def lastOf (l : List Int) : Nat := (l.getD (l.length - 1) 0).toNat
def firstOf (l : List Int) : Nat := (l.getD 0 0).toNat
def goM : Nat → Tb → List Int → Option (List Int)
  | 0, _, _ => none
  | n + 1, t, l => if 1 < l.length ∧ 0 < tg t (lastOf l) (firstOf l) then some l else
    (List.range' (firstOf l + 1) (15 - firstOf l)).findSome? (fun (k : Nat) => if tg t (lastOf l) k = 0 ∨ (k : Int) ∈ l then none else goM n t (l ++ [(k : Int)]))
def circleM (t : Tb) : Option (List Int) := (List.range' 0 16).findSome? (fun (i : Nat) => goM 17 t [(i : Int)])
theorem range_step {β : Type} (f : Nat → Option β) (a : Nat) (h : a < 16) : (List.range' a (16 - a)).findSome? f = (match f a with | some b => some b | none => (List.range' (a + 1) (16 - (a + 1))).findSome? f) := by
  rw [show 16 - a = (16 - (a + 1)) + 1 by omega, List.range'_succ, List.findSome?_cons]
  cases f a <;> rfl
def inT (l : List Int) : Prop := l ≠ [] ∧ ∀ x ∈ l, 0 ≤ x ∧ x < 16
theorem inT_one (i : Nat) (h : i < 16) : inT [(i : Int)] := ⟨by simp, fun x hx => by simp at hx; omega⟩
theorem inT_snoc {l : List Int} (h : inT l) (k : Nat) (hk : k < 16) : inT (l ++ [(k : Int)]) := by
  refine ⟨by simp, fun x hx => ?_⟩
  rcases List.mem_append.1 hx with h1 | h1
  · exact h.2 x h1
  · simp at h1; omega
theorem inT_at {l : List Int} (h : inT l) (i : Nat) (hi : i < l.length) : 0 ≤ l.getD i 0 ∧ l.getD i 0 < 16 := by
  rw [getD_lt l 0 i hi]; exact h.2 _ (List.getElem_mem hi)
theorem inT_pos {l : List Int} (h : inT l) : 0 < l.length := List.length_pos_iff.2 h.1
theorem first_lt {l : List Int} (h : inT l) : firstOf l < 16 := by
  have := inT_at h 0 (inT_pos h); unfold firstOf; omega
theorem last_lt {l : List Int} (h : inT l) : lastOf l < 16 := by
  have := inT_at h (l.length - 1) (by have := inT_pos h; omega); unfold lastOf; omega
theorem goM_some_ne {n : Nat} {t : Tb} : ∀ {l r : List Int}, l ≠ [] → goM n t l = some r → r ≠ [] := by
  induction n with
  | zero => intro l r _ h; cases h
  | succ n ih =>
    intro l r hl h
    unfold goM at h
    split at h
    · cases h; exact hl
    · obtain ⟨k, hk, he⟩ := List.exists_of_findSome?_eq_some h
      split at he
      · cases he
      · exact ih (by simp) he
theorem circleM_ne {t : Tb} {r : List Int} (h : circleM t = some r) : r ≠ [] := by
  obtain ⟨k, hk, he⟩ := List.exists_of_findSome?_eq_some h
  exact goM_some_ne (by simp) he
theorem goM_len {n : Nat} {t : Tb} : ∀ {l r : List Int}, goM n t l = some r → r.length ≤ l.length + n := by
  induction n with
  | zero => intro l r h; cases h
  | succ n ih =>
    intro l r h
    unfold goM at h
    split at h
    · cases h; omega
    · obtain ⟨k, hk, he⟩ := List.exists_of_findSome?_eq_some h
      split at he
      · cases he
      · have := ih he
        rw [List.length_append, List.length_singleton] at this
        omega
theorem circleM_len {t : Tb} {r : List Int} (h : circleM t = some r) : r.length ≤ 18 := by
  obtain ⟨k, hk, he⟩ := List.exists_of_findSome?_eq_some h
  have := goM_len he
  simp only [List.length_singleton] at this
  omega
def listO (o : Option (List Int)) : List Int := o.getD []
def codeO (o : Option (List Int)) : Int := if o.isSome = true then 0 else 6
/-! what stands in a list -/
def idxF : List Int → Int → Nat → Int
  | [], _, _ => -1
  | a :: l, x, i => if x = a then (i : Int) else idxF l x (i + 1)
theorem idxF_ge : ∀ (l : List Int) (x : Int) (i : Nat), decide (idxF l x i ≥ 0) = decide (x ∈ l)
  | [], x, i => by simp [idxF]
  | a :: l, x, i => by
    unfold idxF
    by_cases h : x = a
    · rw [if_pos h, decide_eq_true (by omega), decide_eq_true (by rw [h]; exact List.mem_cons_self ..)]
    · rw [if_neg h, idxF_ge l x (i + 1)]
      simp [h]
theorem index_ev (l : List Int) (x : Int) (hl : l.length ≤ maxLen) : Ev (fun k => slices_Index_int64_int64.f k l x) (idxF l x 0) := by
  unfold slices_Index_int64_int64.f
  unfold maxLen at hl
  refine ev_eq (ev_for (n := l.length) (G := fun k (_ : Unit) i => slices_Index_int64_int64.l0 k l x (l.length : Int) i) (F := fun _ i => idxF (l.drop i) x i) (fun i hi ih s => ?_) (fun s => ?_) 0 (by omega) ()) (by simp)
  · have hr : rd l (i : Int) = l[i] := getD_lt l _ i hi
    show Ev _ (idxF (l.drop i) x i)
    rw [List.drop_eq_getElem_cons hi]
    unfold idxF
    by_cases h : x = l[i]
    · rw [if_pos h]
      refine Ev.step (f := fun _ => some (i : Int)) (fun k => ?_) (Ev.now _)
      simp only [slices_Index_int64_int64.l0]
      rw [if_pos (by omega), if_pos (by omega), if_pos (by omega), hr, if_pos h]
    · rw [if_neg h]
      refine Ev.step (fun k => ?_) (ih ())
      simp only [slices_Index_int64_int64.l0]
      rw [if_pos (by omega), if_pos (by omega), if_pos (by omega), hr, if_neg h, wrap_up hi (by omega)]
  · show Ev _ (idxF (l.drop l.length) x l.length)
    rw [List.drop_length]
    refine Ev.step (f := fun _ => some (-1)) (fun k => ?_) (Ev.now _)
    simp only [slices_Index_int64_int64.l0]
    rw [if_neg (by omega)]
theorem contains_ev (l : List Int) (x : Int) (hl : l.length ≤ maxLen) : Ev (fun k => slices_Contains_int64_int64.f k l x) (decide (x ∈ l)) := by
  unfold slices_Contains_int64_int64.f
  exact Ev.bind (index_ev l x hl) (ev_eq (Ev.now _) (idxF_ge l x 0))
def bodyM (n : Nat) (t : Tb) (l : List Int) (k : Nat) : Option (List Int) := if tg t (lastOf l) k = 0 ∨ (k : Int) ∈ l then none else goM n t (l ++ [(k : Int)])
def fromM (n : Nat) (t : Tb) (l : List Int) (i : Nat) : Option (List Int) := (List.range' i (16 - i)).findSome? (bodyM n t l)
theorem goM_succ (n : Nat) (t : Tb) (l : List Int) : goM (n + 1) t l = if 1 < l.length ∧ 0 < tg t (lastOf l) (firstOf l) then some l else fromM n t l (firstOf l + 1) := by
  unfold fromM
  rw [show 16 - (firstOf l + 1) = 15 - firstOf l by omega]
  rfl
theorem fromM_step (n : Nat) (t : Tb) (l : List Int) (i : Nat) (h : i < 16) : fromM n t l i = (match bodyM n t l i with | some b => some b | none => fromM n t l (i + 1)) := by unfold fromM; rw [range_step (bodyM n t l) i h]; cases bodyM n t l i <;> rfl
theorem fromM_end (n : Nat) (t : Tb) (l : List Int) : fromM n t l 16 = none := rfl
theorem fromM_none {n : Nat} {t : Tb} {l : List Int} {i : Nat} (h : i < 16) (hb : bodyM n t l i = none) : fromM n t l i = fromM n t l (i + 1) := by
  rw [fromM_step n t l i h, hb]
theorem fromM_some {n : Nat} {t : Tb} {l r : List Int} {i : Nat} (h : i < 16) (hb : bodyM n t l i = some r) : fromM n t l i = some r := by
  rw [fromM_step n t l i h, hb]
theorem last_eq {l : List Int} (h : inT l) : l.getD (l.length - 1) 0 = (lastOf l : Int) := by
  have := inT_at h (l.length - 1) (by have := inT_pos h; omega)
  unfold lastOf; omega
theorem first_eq {l : List Int} (h : inT l) : l.getD 0 0 = (firstOf l : Int) := by
  have := inT_at h 0 (inT_pos h)
  unfold firstOf; omega
theorem pre_wrap {l : List Int} (h : inT l) (hl : l.length ≤ 100) : wrap64 ((l.length : Int) - 1) = ((l.length - 1 : Nat) : Int) := by
  have := inT_pos h
  rw [wrap_id (by omega) (by omega)]; omega
theorem rd_last {l : List Int} (h : inT l) (hl : l.length ≤ 100) : rd l (wrap64 ((l.length : Int) - 1)) = (lastOf l : Int) := by
  rw [pre_wrap h hl]; exact last_eq h
theorem rd_first {l : List Int} (h : inT l) : rd l 0 = (firstOf l : Int) := first_eq h
def resI (t : Tb) (o : Option (List Int)) : List Int × Tb := (listO o, t)
theorem cnt_one (i : Nat) : cnt [(i : Int)] < 17 := by have := cnt_le [(i : Int)]; omega
def fromC (t : Tb) (i : Nat) : Option (List Int) := (List.range' i (16 - i)).findSome? (fun (i : Nat) => goM 17 t [(i : Int)])
theorem fromC_none {t : Tb} {i : Nat} (h : i < 16) (hb : goM 17 t [(i : Int)] = none) : fromC t i = fromC t (i + 1) := by
  unfold fromC; rw [range_step _ i h]; simp only [hb]
theorem fromC_some {t : Tb} {i : Nat} {r : List Int} (h : i < 16) (hb : goM 17 t [(i : Int)] = some r) : fromC t i = some r := by
  unfold fromC; rw [range_step _ i h]; simp only [hb]
def findR (p : Int) (l : List D) : List Int × Int := if (joinR p l).2 = 0 then (listO (circleM (sumT l)), codeO (circleM (sumT l))) else ([], (joinR p l).2)
theorem findR_length (p : Int) (l : List D) : (findR p l).1.length ≤ 18 := by
  unfold findR
  split
  · cases hc : circleM (sumT l) with
    | none => simp [listO]
    | some r => exact circleM_len hc
  · simp
end Go.Proofs.Ytofcgkcpkngocaa.PuCircCancelCircle
