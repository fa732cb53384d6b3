/- Circles of debts: which circle is found. -/
import Derived.Test.YtofcgkcpkngocaaMCirclesx0
import Derived.Test.YtofcgkcpkngocaaMCirclesx6
import Derived.Test.YtofcgkcpkngocaaMCirclesx7
import Derived.Test.YtofcgkcpkngocaaMCirclesx8
import Derived.Test.YtofcgkcpkngocaaMCirclesx9
import Derived.Test.YtofcgkcpkngocaaVCirclesEv
import Derived.Test.YtofcgkcpkngocaaVCirclesArr
import Derived.Test.YtofcgkcpkngocaaPuDebtCircles
import Derived.Test.YtofcgkcpkngocaaPuTableCircles
import Derived.Test.YtofcgkcpkngocaaPuTableLCircles
namespace Go.Proofs.Ytofcgkcpkngocaa.PuCircCircles
open Go.RowKit MCircles Go.Proofs.YtofcgkcpkngocaaW.PrintWords Go.Proofs.YtofcgkcpkngocaaW.PrintLast Go.Proofs.YtofcgkcpkngocaaW.PrintMore Evs PuDebtCircles PuTableCircles PuTableLCircles
set_option linter.unusedVariables false
set_option linter.unusedSimpArgs false
theorem countP_lt {α : Type} (p q : α → Bool) : ∀ (L : List α), (∀ a ∈ L, q a = true → p a = true) → (∃ a ∈ L, p a = true ∧ q a = false) → L.countP q < L.countP p
  | [], _, h => by obtain ⟨a, ha, _⟩ := h; cases ha
  | b :: L, h1, h2 => by
    have hle : L.countP q ≤ L.countP p := List.countP_mono_left (fun a ha => h1 a (List.mem_cons_of_mem _ ha))
    rw [List.countP_cons, List.countP_cons]
    obtain ⟨a, ha, hp, hq⟩ := h2
    rcases List.mem_cons.1 ha with rfl | ha2
    · rw [hp, hq]; simp; omega
    · have ih := countP_lt p q L (fun a ha => h1 a (List.mem_cons_of_mem _ ha)) ⟨a, ha2, hp, hq⟩
      have hb := h1 b (List.mem_cons_self ..)
      cases hqb : q b
      · simp; omega
      · rw [hb hqb]; simp; omega
def cnt (l : List Int) : Nat := (List.range 16).countP (fun (k : Nat) => decide ¬ ((k : Int) ∈ l))
theorem cnt_le (l : List Int) : cnt l ≤ 16 := by
  unfold cnt; exact Nat.le_trans List.countP_le_length (by simp)
theorem cnt_snoc (l : List Int) (k : Nat) (hk : k < 16) (h : ¬ (k : Int) ∈ l) : cnt (l ++ [(k : Int)]) < cnt l := by
  unfold cnt; refine countP_lt _ _ _ (fun a ha h1 => ?_) ⟨k, List.mem_range.2 hk, decide_eq_true h, decide_eq_false (by simp)⟩; have h2 := of_decide_eq_true h1; exact decide_eq_true (fun z => h2 (List.mem_append.2 (Or.inl z)))
def lastOf (l : List Int) : Nat := (l.getD (l.length - 1) 0).toNat
def firstOf (l : List Int) : Nat := (l.getD 0 0).toNat
def goM : Nat → Tb → List Int → Option (List Int)
  | 0, _, _ => none
  | n + 1, t, l => if 1 < l.length ∧ 0 < tg t (lastOf l) (firstOf l) then some l else
    (List.range' (firstOf l + 1) (15 - firstOf l)).findSome? (fun (k : Nat) => if tg t (lastOf l) k = 0 ∨ (k : Int) ∈ l then none else goM n t (l ++ [(k : Int)]))
def circleM (t : Tb) : Option (List Int) := (List.range' 0 16).findSome? (fun (i : Nat) => goM 17 t [(i : Int)])
theorem range_step {β : Type} (f : Nat → Option β) (a : Nat) (h : a < 16) : (List.range' a (16 - a)).findSome? f = (match f a with | some b => some b | none => (List.range' (a + 1) (16 - (a + 1))).findSome? f) := by
  rw [show 16 - a = (16 - (a + 1)) + 1 by omega, List.range'_succ, List.findSome?_cons]; cases f a <;> rfl
def inT (l : List Int) : Prop := l ≠ [] ∧ ∀ x ∈ l, 0 ≤ x ∧ x < 16
theorem inT_one (i : Nat) (h : i < 16) : inT [(i : Int)] := ⟨by simp, fun x hx => by simp at hx; omega⟩
theorem inT_snoc {l : List Int} (h : inT l) (k : Nat) (hk : k < 16) : inT (l ++ [(k : Int)]) := by
  refine ⟨by simp, fun x hx => ?_⟩; rcases List.mem_append.1 hx with h1 | h1
  · exact h.2 x h1
  · simp at h1; omega
theorem inT_at {l : List Int} (h : inT l) (i : Nat) (hi : i < l.length) : 0 ≤ l.getD i 0 ∧ l.getD i 0 < 16 := by
  rw [getD_lt l 0 i hi]; exact h.2 _ (List.getElem_mem hi)
theorem inT_pos {l : List Int} (h : inT l) : 0 < l.length := List.length_pos_iff.2 h.1
theorem first_lt {l : List Int} (h : inT l) : firstOf l < 16 := by
  have := inT_at h 0 (inT_pos h); unfold firstOf; omega
theorem last_lt {l : List Int} (h : inT l) : lastOf l < 16 := by
  have := inT_at h (l.length - 1) (by have := inT_pos h; omega); unfold lastOf; omega
theorem goM_some_ne {n : Nat} {t : Tb} : ∀ {l r : List Int}, l ≠ [] → goM n t l = some r → r ≠ [] := by
  induction n with
  | zero => intro l r _ h; cases h
  | succ n ih =>
    intro l r hl h; unfold goM at h; split at h
    · cases h; exact hl
    · obtain ⟨k, hk, he⟩ := List.exists_of_findSome?_eq_some h; split at he
      · cases he
      · exact ih (by simp) he
theorem circleM_ne {t : Tb} {r : List Int} (h : circleM t = some r) : r ≠ [] := by
  obtain ⟨k, hk, he⟩ := List.exists_of_findSome?_eq_some h; exact goM_some_ne (by simp) he
theorem goM_len {n : Nat} {t : Tb} : ∀ {l r : List Int}, goM n t l = some r → r.length ≤ l.length + n := by
  induction n with
  | zero => intro l r h; cases h
  | succ n ih =>
    intro l r h; unfold goM at h; split at h
    · cases h; omega
    · obtain ⟨k, hk, he⟩ := List.exists_of_findSome?_eq_some h; split at he
      · cases he
      · have := ih he; rw [List.length_append, List.length_singleton] at this; omega
theorem circleM_len {t : Tb} {r : List Int} (h : circleM t = some r) : r.length ≤ 18 := by
  obtain ⟨k, hk, he⟩ := List.exists_of_findSome?_eq_some h; have := goM_len he; simp only [List.length_singleton] at this; omega
def listO (o : Option (List Int)) : List Int := o.getD []
def codeO (o : Option (List Int)) : Int := if o.isSome = true then 0 else 6
def idxF : List Int → Int → Nat → Int
  | [], _, _ => -1
  | a :: l, x, i => if x = a then (i : Int) else idxF l x (i + 1)
theorem idxF_ge : ∀ (l : List Int) (x : Int) (i : Nat), decide (idxF l x i ≥ 0) = decide (x ∈ l)
  | [], x, i => by simp [idxF]
  | a :: l, x, i => by
    unfold idxF
    by_cases h : x = a
    · rw [if_pos h, decide_eq_true o_, decide_eq_true (by rw [h]; exact List.mem_cons_self ..)]
    · rw [if_neg h, idxF_ge l x (i + 1)]
      simp [h]
theorem index_ev (l : List Int) (x : Int) (hl : l.length ≤ maxLen) : Ev (fun k => slices_Index_int64_int64.f k l x) (idxF l x 0) := by
  unfold slices_Index_int64_int64.f; unfold maxLen at hl; refine ev_eq (ev_for (n := l.length) (G := fun k (_ : Unit) i => slices_Index_int64_int64.l0 k l x (l.length : Int) i) (F := fun _ i => idxF (l.drop i) x i) (fun i hi ih s => ?_) (fun s => ?_) 0 o_ ()) (by simp)
  · have hr : rd l (i : Int) = l[i] := getD_lt l _ i hi; show Ev _ (idxF (l.drop i) x i); rw [List.drop_eq_getElem_cons hi]; unfold idxF; by_cases h : x = l[i]
    · rw [if_pos h]; refine Ev.step (f := fun _ => some (i : Int)) (fun k => ?_) (Ev.now _); simp only [slices_Index_int64_int64.l0]; rw [if_pos o_, if_pos o_, if_pos o_, hr, if_pos h]
    · rw [if_neg h]; refine Ev.step (fun k => ?_) (ih ()); simp only [slices_Index_int64_int64.l0]; rw [if_pos o_, if_pos o_, if_pos o_, hr, if_neg h, wrap_up hi o_]
  · show Ev _ (idxF (l.drop l.length) x l.length); rw [List.drop_length]; refine Ev.step (f := fun _ => some (-1)) (fun k => ?_) (Ev.now _); simp only [slices_Index_int64_int64.l0]; rw [if_neg o_]
theorem contains_ev (l : List Int) (x : Int) (hl : l.length ≤ maxLen) : Ev (fun k => slices_Contains_int64_int64.f k l x) (decide (x ∈ l)) := by
  unfold slices_Contains_int64_int64.f; exact Ev.bind (index_ev l x hl) (ev_eq (Ev.now _) (idxF_ge l x 0))
theorem clone_f (l : List Int) (h : l.length < 17592186044416) : slices_Clone_int64_int64.f l = some l := by
  unfold slices_Clone_int64_int64.f; simp only [Option.bind_some, List.length_nil, List.nil_append, Nat.zero_add]; rw [if_pos h]
def bodyM (n : Nat) (t : Tb) (l : List Int) (k : Nat) : Option (List Int) := if tg t (lastOf l) k = 0 ∨ (k : Int) ∈ l then none else goM n t (l ++ [(k : Int)])
def fromM (n : Nat) (t : Tb) (l : List Int) (i : Nat) : Option (List Int) := (List.range' i (16 - i)).findSome? (bodyM n t l)
theorem goM_succ (n : Nat) (t : Tb) (l : List Int) : goM (n + 1) t l = if 1 < l.length ∧ 0 < tg t (lastOf l) (firstOf l) then some l else fromM n t l (firstOf l + 1) := by
  unfold fromM; rw [show 16 - (firstOf l + 1) = 15 - firstOf l by omega]; rfl
theorem fromM_step (n : Nat) (t : Tb) (l : List Int) (i : Nat) (h : i < 16) : fromM n t l i = (match bodyM n t l i with | some b => some b | none => fromM n t l (i + 1)) := by unfold fromM; rw [range_step (bodyM n t l) i h]; cases bodyM n t l i <;> rfl
theorem fromM_none {n : Nat} {t : Tb} {l : List Int} {i : Nat} (h : i < 16) (hb : bodyM n t l i = none) : fromM n t l i = fromM n t l (i + 1) := by
  rw [fromM_step n t l i h, hb]
theorem fromM_some {n : Nat} {t : Tb} {l r : List Int} {i : Nat} (h : i < 16) (hb : bodyM n t l i = some r) : fromM n t l i = some r := by
  rw [fromM_step n t l i h, hb]
theorem last_eq {l : List Int} (h : inT l) : l.getD (l.length - 1) 0 = (lastOf l : Int) := by
  have := inT_at h (l.length - 1) (by have := inT_pos h; omega); unfold lastOf; omega
theorem first_eq {l : List Int} (h : inT l) : l.getD 0 0 = (firstOf l : Int) := by
  have := inT_at h 0 (inT_pos h); unfold firstOf; omega
theorem pre_wrap {l : List Int} (h : inT l) (hl : l.length ≤ 100) : wrap64 ((l.length : Int) - 1) = ((l.length - 1 : Nat) : Int) := by
  have := inT_pos h; rw [wrap_id o_ o_]; omega
theorem rd_last {l : List Int} (h : inT l) (hl : l.length ≤ 100) : rd l (wrap64 ((l.length : Int) - 1)) = (lastOf l : Int) := by
  rw [pre_wrap h hl]; exact last_eq h
theorem rd_first {l : List Int} (h : inT l) : rd l 0 = (firstOf l : Int) := first_eq h
theorem goI_ev (n : Nat) : ∀ (t : Tb) (l : List Int), inT l → l.length + n ≤ 40 → cnt l < n → Ev (fun k => impl_sums_search.f k t l) (listO (goM n t l), t) := by
  induction n with
  | zero => intro t l _ _ h; omega
  | succ n ih =>
    intro t l hT hl hc; have hp := inT_pos hT; have f16 := first_lt hT; have l16 := last_lt hT
    have loop : ∀ i : Nat, i ≤ 16 → Ev (fun k => impl_sums_search.l0 k l (lastOf l : Int) (i : Int) t) (listO (fromM n t l i), t) := by
      intro i hi; refine ev_for (n := 16) (G := fun k (_ : Unit) i => impl_sums_search.l0 k l (lastOf l : Int) i t) (F := fun _ i => (listO (fromM n t l i), t)) (fun i hi ih2 s => ?_) (fun s => ?_) i hi ()
      · show Ev _ (listO (fromM n t l i), t); refine Ev.step (fun k => by rw [impl_sums_search.l0, wrap_up hi o_]) ?_; refine ev_pos o_ (ev_pos o_ (ev_pos o_ (ev_pos o_ ?_))); have ec : Arr.vrd2 16 t (lastOf l : Int) (i : Int) = tg t (lastOf l) i := vrd2_nn t _ _; by_cases h1 : tg t (lastOf l) i = 0
        · rw [fromM_none hi (if_pos (.inl h1))]; exact ev_pos (ec.trans h1) (ih2 ())
        refine ev_neg (fun z => h1 (ec.symm.trans z)) (Ev.bind (contains_ev l (i : Int) (by unfold maxLen; omega)) ?_); by_cases h2 : (i : Int) ∈ l
        · rw [fromM_none hi (if_pos (.inr h2))]; exact ev_pos (decide_eq_true h2) (ih2 ())
        refine ev_neg (by rw [decide_eq_false h2]; simp) (ev_bind0 (clone_f l o_) (ev_pos o_ ?_)); have eb : bodyM n t l i = goM n t (l ++ [(i : Int)]) := if_neg (fun z => z.elim h1 h2); refine Ev.bind (ih t (l ++ [(i : Int)]) (inT_snoc hT i hi) (by rw [List.length_append, List.length_singleton]; omega) (by have := cnt_snoc l i hi h2; omega)) ?_
        cases hg : goM n t (l ++ [(i : Int)]) with
        | none =>
          rw [fromM_none hi (eb.trans hg)]; exact ev_pos rfl (ih2 ())
        | some r =>
          rw [fromM_some hi (eb.trans hg)]; have hr := goM_some_ne (by simp) hg; refine ev_neg ?_ (Ev.now _); intro z; exact hr (List.eq_nil_of_length_eq_zero (by exact Int.ofNat.inj z))
      · refine Ev.step (f := fun _ => some ([], t)) (fun k => ?_) (Ev.now _); rw [impl_sums_search.l0, if_neg o_]
    have l2 : Ev (fun k => impl_sums_search.l0 k l (lastOf l : Int) ((firstOf l : Int) + 1) t) (listO (fromM n t l (firstOf l + 1)), t) := loop (firstOf l + 1) o_; rw [goM_succ]; refine Ev.step (fun k => by rw [impl_sums_search.f, rd_last hT o_, rd_first hT, wrap_id (x := (firstOf l : Int) + 1) o_ o_]) ?_; refine ev_pos o_ (ev_pos (by rw [pre_wrap hT o_]; omega) (ev_pos (by rw [pre_wrap hT o_]; omega) ?_)); by_cases h1 : 1 < l.length
    · refine ev_pos o_ (ev_pos o_ (ev_pos o_ (ev_pos o_ (ev_pos o_ ?_)))); have ec : Arr.vrd2 16 t (lastOf l : Int) (firstOf l : Int) = tg t (lastOf l) (firstOf l) := vrd2_nn t _ _; by_cases h2 : 0 < tg t (lastOf l) (firstOf l)
      · rw [if_pos ⟨h1, h2⟩]; exact ev_pos (by rw [ec]; exact h2) (Ev.now _)
      · rw [if_neg (fun z => h2 z.2)]; exact ev_neg (by rw [ec]; exact h2) l2
    · rw [if_neg (fun z => h1 z.1)]; exact ev_neg o_ l2
theorem goS_ev (n : Nat) : ∀ (t : Tb) (l : List Int), inT l → l.length + n ≤ 40 → cnt l < n → Ev (fun k => spec_l02Go.f k t l) (listO (goM n t l), (goM n t l).isSome, t) := by
  induction n with
  | zero => intro t l _ _ h; omega
  | succ n ih =>
    intro t l hT hl hc; have hp := inT_pos hT; have f16 := first_lt hT; have l16 := last_lt hT
    have loop : ∀ i : Nat, i ≤ 16 → Ev (fun k => spec_l02Go.l0 k l (lastOf l : Int) (i : Int) t) (listO (fromM n t l i), (fromM n t l i).isSome, t) := by
      intro i hi; refine ev_for (n := 16) (G := fun k (_ : Unit) i => spec_l02Go.l0 k l (lastOf l : Int) i t) (F := fun _ i => (listO (fromM n t l i), (fromM n t l i).isSome, t)) (fun i hi ih2 s => ?_) (fun s => ?_) i hi ()
      · show Ev _ (listO (fromM n t l i), (fromM n t l i).isSome, t); refine Ev.step (fun k => by rw [spec_l02Go.l0]) ?_; refine ev_pos o_ (ev_pos o_ (ev_pos o_ (ev_pos o_ ?_))); have ec : Arr.vrd2 16 t (lastOf l : Int) (i : Int) = tg t (lastOf l) i := vrd2_nn t _ _; rw [ec]; obtain ⟨X, hX⟩ : ∃ X, (listO (fromM n t l (i + 1)), (fromM n t l (i + 1)).isSome, t) = X := ⟨_, rfl⟩; have ihX : Ev (fun k => spec_l02Go.l0 k l (lastOf l : Int) ((i : Int) + 1) t) X := hX ▸ ih2 (); obtain ⟨Y, hY⟩ : ∃ Y, (match goM n t (l ++ [(i : Int)]) with | some r => (r, true, t) | none => X) = Y := ⟨_, rfl⟩
        have inner := ev_forI (n := l.length) (G := fun k (b : Bool) j => spec_l02Go.l1 k l (lastOf l : Int) (i : Int) b j t) (F := fun b j => if (b || decide ((i : Int) ∈ l.drop j)) = true then X else Y) (I := fun b j => b = false → ¬ (i : Int) ∈ l.take j) (fun j hj ih3 b hI => by
            refine Ev.step (fun k => by rw [spec_l02Go.l1, wrap_up hj o_]) (ev_pos o_ ?_)
            cases b with
            | true => exact ev_pos rfl (ev_eq (ih3 true (by simp)) (by simp))
            | false =>
              have hr : rd l (j : Int) = l[j] := getD_lt l _ j hj; refine ev_neg (by simp) (ev_pos o_ ?_); rw [hr]; refine ev_eq (ih3 (l[j] == (i : Int)) (fun hb => ?_)) ?_
              · rw [List.take_succ_eq_append_getElem hj]; intro hm; rcases List.mem_append.1 hm with h | h
                · exact hI rfl h
                · have h2 := List.mem_singleton.1 h; rw [← h2] at hb; simp at hb
              · rw [List.drop_eq_getElem_cons hj]; by_cases he : l[j] = (i : Int)
                · rw [if_pos (by simp [he]), if_pos (by simp [he])]
                · have he2 : ¬ (i : Int) = l[j] := fun z => he z.symm
                  have e1 : ((i : Int) ∈ l[j] :: l.drop (j + 1)) ↔ (i : Int) ∈ l.drop (j + 1) := by
                    rw [List.mem_cons]; exact ⟨fun z => z.elim (fun y => absurd y he2) id, .inr⟩
                  (have e2 : (l[j] == (i : Int)) = false := by simp [he]); rw [e2]; simp only [Bool.false_or, decide_eq_true_eq, e1]) (fun b hI => by
            refine Ev.step (fun k => by rw [spec_l02Go.l1]) (ev_neg o_ ?_); rw [List.drop_length]
            cases b with
            | true => exact ev_pos rfl (ev_eq (by rw [wrap_up hi o_]; exact ihX) (by simp))
            | false =>
              (have hin : ¬ (i : Int) ∈ l := by have := hI rfl; rwa [List.take_length] at this); refine ev_neg (by simp) (ev_eq ?_ (show Y = _ by simp)); simp only [Option.bind_some, List.length_nil, List.nil_append, Nat.zero_add]; refine ev_pos o_ (ev_pos o_ ?_); refine Ev.bind (ih t (l ++ [(i : Int)]) (inT_snoc hT i hi) (by rw [List.length_append, List.length_singleton]; omega) (by have := cnt_snoc l i hi hin; omega)) ?_; rw [← hY]
              cases hg : goM n t (l ++ [(i : Int)]) with
              | none => exact ev_neg (by simp) (by rw [wrap_up hi o_]; exact ihX)
              | some r => exact ev_pos rfl (Ev.now _)) 0 o_ (tg t (lastOf l) i == 0) (by simp)
        refine ev_eq inner ?_; rw [List.drop_zero]; by_cases h1 : tg t (lastOf l) i = 0
        · rw [if_pos (by simp [h1]), fromM_none hi (if_pos (.inl h1)), hX]
        · by_cases h2 : (i : Int) ∈ l
          · rw [if_pos (by simp [h2]), fromM_none hi (if_pos (.inr h2)), hX]
          · rw [if_neg (by simp [h1, h2]), ← hY]; have eb : bodyM n t l i = goM n t (l ++ [(i : Int)]) := if_neg (fun z => z.elim h1 h2)
            cases hg : goM n t (l ++ [(i : Int)]) with
            | none => rw [fromM_none hi (eb.trans hg), hX]
            | some r => rw [fromM_some hi (eb.trans hg)]; rfl
      · refine Ev.step (f := fun _ => some ([], false, t)) (fun k => ?_) (Ev.now _); rw [spec_l02Go.l0, if_neg o_]
    have l2 : Ev (fun k => spec_l02Go.l0 k l (lastOf l : Int) ((firstOf l : Int) + 1) t) (listO (fromM n t l (firstOf l + 1)), (fromM n t l (firstOf l + 1)).isSome, t) := loop (firstOf l + 1) o_
    have jn : Ev (fun k => spec_l02Go.j0 k l (lastOf l : Int) false t) (listO (fromM n t l (firstOf l + 1)), (fromM n t l (firstOf l + 1)).isSome, t) := by
      refine Ev.step (fun k => by rw [spec_l02Go.j0, rd_first hT, wrap_id (x := (firstOf l : Int) + 1) o_ o_]) ?_; exact ev_neg (by simp) (ev_pos o_ l2)
    rw [goM_succ]; refine Ev.step (fun k => by rw [spec_l02Go.f, rd_last hT o_, rd_first hT]) ?_; refine ev_pos (by rw [pre_wrap hT o_]; omega) (ev_pos (by rw [pre_wrap hT o_]; omega) ?_); by_cases h1 : 1 < l.length
    · refine ev_pos o_ (ev_pos o_ (ev_pos o_ (ev_pos o_ (ev_pos o_ (ev_pos o_ ?_))))); have ec : Arr.vrd2 16 t (lastOf l : Int) (firstOf l : Int) = tg t (lastOf l) (firstOf l) := vrd2_nn t _ _; rw [ec]; by_cases h2 : 0 < tg t (lastOf l) (firstOf l)
      · rw [if_pos ⟨h1, h2⟩, decide_eq_true (show tg t (lastOf l) (firstOf l) > 0 from h2)]; exact Ev.step (f := fun _ => some (l, true, t)) (fun k => by rw [spec_l02Go.j0, if_pos rfl]) (Ev.now _)
      · rw [if_neg (fun z => h2 z.2), decide_eq_false (show ¬ tg t (lastOf l) (firstOf l) > 0 from h2)]; exact jn
    · rw [if_neg (fun z => h1 z.1)]; exact ev_neg o_ jn
theorem cnt_one (i : Nat) : cnt [(i : Int)] < 17 := by have := cnt_le [(i : Int)]; omega
def fromC (t : Tb) (i : Nat) : Option (List Int) := (List.range' i (16 - i)).findSome? (fun (i : Nat) => goM 17 t [(i : Int)])
theorem fromC_none {t : Tb} {i : Nat} (h : i < 16) (hb : goM 17 t [(i : Int)] = none) : fromC t i = fromC t (i + 1) := by
  unfold fromC; rw [range_step _ i h]; simp only [hb]
theorem fromC_some {t : Tb} {i : Nat} {r : List Int} (h : i < 16) (hb : goM 17 t [(i : Int)] = some r) : fromC t i = some r := by
  unfold fromC; rw [range_step _ i h]; simp only [hb]
theorem circleI_ev (t : Tb) : Ev (fun k => impl_sums_circle.f k t) (listO (circleM t), t) := by
  unfold impl_sums_circle.f; show Ev _ (listO (fromC t 0), t); refine ev_for (n := 16) (G := fun k (_ : Unit) i => impl_sums_circle.l0 k i t) (F := fun _ i => (listO (fromC t i), t)) (fun i hi ih s => ?_) (fun s => ?_) 0 o_ ()
  · show Ev _ (listO (fromC t i), t); refine Ev.step (fun k => by rw [impl_sums_circle.l0, wrap_up hi o_]) (ev_pos o_ ?_); refine Ev.bind (goI_ev 17 t [(i : Int)] (inT_one i hi) (by simp) (cnt_one i)) ?_
    cases hg : goM 17 t [(i : Int)] with
    | none =>
      rw [fromC_none hi hg]; exact ev_pos rfl (ih ())
    | some r =>
      rw [fromC_some hi hg]; have hr := goM_some_ne (by simp) hg; refine ev_neg ?_ (Ev.now _); intro z; exact hr (List.eq_nil_of_length_eq_zero (by exact Int.ofNat.inj z))
  · refine Ev.step (f := fun _ => some ([], t)) (fun k => ?_) (Ev.now _); rw [impl_sums_circle.l0, if_neg o_]
theorem circleS_ev (t : Tb) : Ev (fun k => spec_l02Circle.f k t) (listO (circleM t), (circleM t).isSome, t) := by
  unfold spec_l02Circle.f; show Ev _ (listO (fromC t 0), (fromC t 0).isSome, t); refine ev_for (n := 16) (G := fun k (_ : Unit) i => spec_l02Circle.l0 k i t) (F := fun _ i => (listO (fromC t i), (fromC t i).isSome, t)) (fun i hi ih s => ?_) (fun s => ?_) 0 o_ ()
  · show Ev _ (listO (fromC t i), (fromC t i).isSome, t); refine Ev.step (fun k => by rw [spec_l02Circle.l0, wrap_up hi o_]) (ev_pos o_ ?_); refine Ev.bind (goS_ev 17 t [(i : Int)] (inT_one i hi) (by simp) (cnt_one i)) ?_
    cases hg : goM 17 t [(i : Int)] with
    | none =>
      rw [fromC_none hi hg]; exact ev_neg (by simp) (ih ())
    | some r =>
      rw [fromC_some hi hg]; exact ev_pos rfl (Ev.now _)
  · refine Ev.step (f := fun _ => some ([], false, t)) (fun k => ?_) (Ev.now _); rw [spec_l02Circle.l0, if_neg o_]
def findR (p : Int) (l : List D) : List Int × Int := if (joinR p l).2 = 0 then (listO (circleM (sumT l)), codeO (circleM (sumT l))) else ([], (joinR p l).2)
theorem FindS_ev (p : Int) (l : List D) (hl : l.length ≤ maxLen) : Ev (fun k => spec_FindCircle.f k p l) (findR p l) := by
  unfold spec_FindCircle.f findR; refine Ev.bind (l02Ok_ev p l hl) ?_; by_cases hv : valid p l = true
  · have e : joinR p l = listR (sumT l) := if_pos hv; rw [e]; refine ev_pos hv (Ev.bind (sumsS_ev p l hv) (Ev.bind (listS_ev _) ?_)); by_cases h : (listR (sumT l)).2 = 0
    · refine ev_ifp h (ev_pos h (Ev.bind (circleS_ev _) ?_)); unfold codeO
      cases hc : circleM (sumT l) with
      | none => exact ev_neg (by simp) (Ev.now _)
      | some r => exact ev_pos rfl (Ev.now _)
    · exact ev_ifn h (ev_neg h (Ev.now _))
  · have e : joinR p l = ([], 1) := if_neg hv; rw [e]; exact ev_ifn (by decide) (ev_neg hv (Ev.now _))
theorem FindI_ev (p : Int) (l : List D) (hl : l.length ≤ maxLen) : Ev (fun k => impl_FindCircle.f k p l) (findR p l) := by
  unfold impl_FindCircle.f findR; refine Ev.bind (JoinI_ev p l hl) ?_; by_cases h : (joinR p l).2 = 0
  · have hv : valid p l = true := by
      by_cases hv : valid p l = true
      · exact hv
      · have e : joinR p l = ([], 1) := if_neg hv; rw [e] at h; cases h
    refine ev_ifp h (ev_pos h (Ev.bind (sumsI_ev p l hv) (Ev.bind (circleI_ev _) ?_))); unfold codeO
    cases hc : circleM (sumT l) with
    | none => exact ev_pos rfl (Ev.now _)
    | some r =>
      have hr := circleM_ne hc; refine ev_neg ?_ (Ev.now _); intro z; exact hr (List.eq_nil_of_length_eq_zero (by exact Int.ofNat.inj z))
  · exact ev_ifn h (ev_neg h (Ev.now _))
theorem findR_length (p : Int) (l : List D) : (findR p l).1.length ≤ 18 := by
  unfold findR; split
  · cases hc : circleM (sumT l) with
    | none => simp [listO]
    | some r => exact circleM_len hc
  · simp
end Go.Proofs.Ytofcgkcpkngocaa.PuCircCircles
