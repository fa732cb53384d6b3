import Derived.Test.YtcghnnhhgngddaaDoorMSettledx0
import Derived.Test.YtcghnnhhgngddaaDoorMSettledx12
import Derived.Test.YtcghnnhhgngddaaDoorMSettledx2
import Derived.Test.YtcghnnhhgngddaaDoorVSettledEv
import Derived.Test.YtcghnnhhgngddaaDoorMSettledx13
import Derived.Test.YtcghnnhhgngddaaDoorMSettledx4
import Derived.Test.YtcghnnhhgngddaaDoorMSettledx10
import Derived.Test.YtcghnnhhgngddaaDoorMSettledx6
import Derived.Test.YtcghnnhhgngddaaDoorMSettledx7
import Derived.Test.YtcghnnhhgngddaaDoorMSettledx9
import Derived.Laws.BitsAllLaws
import Derived.Test.YtcghnnhhgngddaaDoorMSettledx5
import Derived.Test.YtcghnnhhgngddaaDoorMSettledx3
import Derived.Test.YtcghnnhhgngddaaDoorMSettledx8
import Derived.Lib.TrailingZeros
import Derived.Test.YtcghnnhhgngddaaDoorMSettledx11
-- a text of this session, cut down for this claim
namespace Go.Proofs.YtcghnnhhgngddaaDoor.PuDebtSettled
open Go.RowKit Go.Proofs.YtcghnnhhgngddaaDoor.MSettled Go.Proofs.YtcghnnhhgngddaaDoorW.PrintWords Go.Proofs.YtcghnnhhgngddaaDoorW.PrintLast Go.Proofs.YtcghnnhhgngddaaDoor.Evs
set_option linter.unusedVariables false
set_option linter.unusedSimpArgs false
abbrev D := S55
noncomputable def dec (p : Prop) : Bool := @decide p (Classical.propDecidable p)
theorem dec_true {p : Prop} (h : p) : dec p = true := by unfold dec; exact @decide_eq_true p (Classical.propDecidable p) h
theorem dec_false {p : Prop} (h : ¬ p) : dec p = false := by unfold dec; exact @decide_eq_false p (Classical.propDecidable p) h
theorem D.ext {a b : D} (h0 : a.f0 = b.f0) (h1 : a.f1 = b.f1) (h2 : a.f2 = b.f2) : a = b := by
  cases a; cases b; simp_all
theorem rdD (l : List D) (i : Nat) (h : i < l.length) : rd_T55 l (i : Int) = l[i] := getD_lt l _ i h
def okD (p : Int) (d : D) : Bool := decide (0 ≤ d.f0 ∧ d.f0 < p ∧ 0 ≤ d.f1 ∧ d.f1 < p ∧ d.f0 ≠ d.f1 ∧ 1 ≤ d.f2 ∧ d.f2 ≤ 100000000)
def valid (p : Int) (l : List D) : Bool := decide (1 ≤ p ∧ p ≤ 16 ∧ l.length ≤ 60) && l.all (okD p)
theorem all_drop {α : Type} (f : α → Bool) (l : List α) (i : Nat) (h : i < l.length) : (l.drop i).all f = (f l[i] && (l.drop (i + 1)).all f) := by
  rw [List.drop_eq_getElem_cons h]; rfl
theorem okD_true {p : Int} {d : D} (h : 0 ≤ d.f0 ∧ d.f0 < p ∧ 0 ≤ d.f1 ∧ d.f1 < p ∧ d.f0 ≠ d.f1 ∧ 1 ≤ d.f2 ∧ d.f2 ≤ 100000000) : okD p d = true := decide_eq_true h
theorem ValidI_ev (p : Int) (l : List D) (hl : l.length ≤ maxLen) : Ev (fun k => impl_ValidDebts.f k p l) (valid p l) := by
  unfold impl_ValidDebts.f valid
  unfold maxLen at hl
  have hj : ∀ k, impl_ValidDebts.j0 (k + 1) p l true = some false := fun k => by simp only [impl_ValidDebts.j0]; rfl
  by_cases h1 : p < 1
  · refine ev_pos h1 (ev_eq (Ev.step (f := fun _ => some false) hj (Ev.now _)) ?_)
    simp only [decide_eq_false (show ¬ (1 ≤ p ∧ p ≤ 16 ∧ l.length ≤ 60) by omega), Bool.false_and]
  · refine ev_neg h1 ?_
    by_cases h2 : p > 16
    · refine ev_pos h2 (ev_eq (Ev.step (f := fun _ => some false) hj (Ev.now _)) ?_)
      simp only [decide_eq_false (show ¬ (1 ≤ p ∧ p ≤ 16 ∧ l.length ≤ 60) by omega), Bool.false_and]
    · refine ev_neg h2 ?_
      by_cases h60 : l.length ≤ 60
      · have key := fun (i : Nat) (hi : i ≤ l.length) => ev_for (n := l.length) (G := fun k (_ : Unit) i => impl_ValidDebts.l0 k p l (l.length : Int) i) (F := fun _ i => (l.drop i).all (okD p)) (fun i hi ih _ => by
          rw [all_drop _ _ _ hi]
          have hS : ∀ k, impl_ValidDebts.l0 (k + 1) p l (l.length : Int) (i : Int) = if okD p l[i] = true then impl_ValidDebts.l0 k p l (l.length : Int) ((i : Int) + 1) else some false := by
            intro k
            simp only [impl_ValidDebts.l0]
            rw [if_pos (by omega), if_pos (by omega), if_pos (by omega), rdD l i hi, wrap_up hi (by omega)]
            by_cases hk : okD p l[i] = true
            · have hk' := of_decide_eq_true hk
              rw [if_pos hk, if_neg (by omega), if_neg (by omega), if_neg (by omega), if_neg (by omega), if_neg (by omega), if_neg (by omega), if_neg (by omega)]
            · have hk' := of_decide_eq_false (Bool.eq_false_iff.mpr hk)
              rw [if_neg hk]
              repeat' first | rfl | (split <;> first | rfl | skip)
              omega
          refine Ev.step hS ?_
          cases okD p l[i]
          · exact Ev.now _
          · exact ih ()) (fun _ => by
          refine ev_eq (Ev.step (f := fun _ => some true) (fun k => ?_) (Ev.now _)) ?_
          · simp only [impl_ValidDebts.l0]
            rw [if_neg (by omega)]
          · simp) i hi ()
        refine ev_eq (Ev.step (f := fun k => impl_ValidDebts.l0 k p l (l.length : Int) 0) (fun k => ?_) (key 0 (by omega))) ?_
        · simp only [impl_ValidDebts.j0]
          rw [if_neg (by simpa using by omega)]
        · rw [decide_eq_true (show 1 ≤ p ∧ p ≤ 16 ∧ l.length ≤ 60 by omega)]; simp
      · refine ev_eq (Ev.step (f := fun _ => some false) (fun k => ?_) (Ev.now _)) ?_
        · simp only [impl_ValidDebts.j0]
          rw [if_pos (by simpa using by omega)]
        · simp [h60]
end Go.Proofs.YtcghnnhhgngddaaDoor.PuDebtSettled
-- a text of this session, cut down for this claim
namespace Go.Proofs.YtcghnnhhgngddaaDoor.PuDebtSSettled
open Go.RowKit Go.Proofs.YtcghnnhhgngddaaDoor.MSettled Go.Proofs.YtcghnnhhgngddaaDoorW.PrintWords Go.Proofs.YtcghnnhhgngddaaDoorW.PrintLast Go.Proofs.YtcghnnhhgngddaaDoor.Evs Go.Proofs.YtcghnnhhgngddaaDoor.PuDebtSettled
set_option linter.unusedVariables false
set_option linter.unusedSimpArgs false
theorem D.eq_iff (a b : D) : a = b ↔ a.f0 = b.f0 ∧ a.f1 = b.f1 ∧ a.f2 = b.f2 := ⟨fun h => by subst h; exact ⟨rfl, rfl, rfl⟩, fun h => D.ext h.1 h.2.1 h.2.2⟩
theorem drop_eq_iff {α : Type} (a b : List α) (i : Nat) (ha : i < a.length) (hb : i < b.length) : a.drop i = b.drop i ↔ a[i] = b[i] ∧ a.drop (i + 1) = b.drop (i + 1) := by
  rw [List.drop_eq_getElem_cons ha, List.drop_eq_getElem_cons hb, List.cons.injEq]
theorem l02Same_ev (a b : List D) (h : a.length ≤ maxLen) : Ev (fun k => spec_l02Same.f k a b) (dec (a = b)) := by
  unfold spec_l02Same.f
  unfold maxLen at h
  by_cases hl : a.length = b.length
  · refine ev_pos (by omega) ?_
    have key := fun (i : Nat) (hi : i ≤ a.length) => ev_for (n := a.length) (G := fun k (_ : Unit) i => spec_l02Same.l0 k a b i) (F := fun _ i => dec (a.drop i = b.drop i)) (fun i hi ih _ => by
      have hr : (!(a[i].f0 == b[i].f0) || (!(a[i].f1 == b[i].f1) || !(a[i].f2 == b[i].f2))) = true ↔ ¬ a[i] = b[i] := by
        rw [D.eq_iff]; simp; omega
      by_cases he : a[i] = b[i]
      · refine ev_eq (Ev.step (fun k => ?_) (ih ())) ?_
        · simp only [spec_l02Same.l0]
          rw [if_pos (by omega), if_pos (by omega), if_pos (by omega), rdD a i hi, rdD b i (by omega), if_neg (by rw [hr]; exact fun h => h he), wrap_up hi (by omega)]
        · congr 1
          rw [drop_eq_iff a b i hi (by omega)]
          simp [he]
      · refine ev_eq (Ev.step (f := fun _ => some false) (fun k => ?_) (Ev.now _)) ?_
        · simp only [spec_l02Same.l0]
          rw [if_pos (by omega), if_pos (by omega), if_pos (by omega), rdD a i hi, rdD b i (by omega), if_pos (hr.2 he)]
        · rw [drop_eq_iff a b i hi (by omega)]
          exact (dec_false (fun h => he h.1)).symm) (fun _ => by
      refine ev_eq (Ev.step (f := fun _ => some true) (fun k => ?_) (Ev.now _)) ?_
      · simp only [spec_l02Same.l0]
        rw [if_neg (by omega)]
      · exact (dec_true (by rw [List.drop_of_length_le (by omega), List.drop_of_length_le (by omega)])).symm) i hi ()
    simpa using key 0 (by omega)
  · refine ev_neg (by omega) (ev_eq (Ev.now false) (dec_false (fun h => hl (by rw [h]))).symm)
theorem SameS_ev (a b : List D) (h : a.length ≤ maxLen) : Ev (fun k => spec_SameDebts.f k a b) (dec (a = b)) := by
  unfold spec_SameDebts.f
  exact Ev.bind (l02Same_ev a b h) (Ev.now _)
end Go.Proofs.YtcghnnhhgngddaaDoor.PuDebtSSettled
-- a text of this session, cut down for this claim
namespace Go.Proofs.YtcghnnhhgngddaaDoor.PuSumNetsSettled
open Go.RowKit Go.Proofs.YtcghnnhhgngddaaDoor.MSettled Go.Proofs.YtcghnnhhgngddaaDoorW.PrintWords Go.Proofs.YtcghnnhhgngddaaDoorW.PrintLast Go.Proofs.YtcghnnhhgngddaaDoor.Evs Go.Proofs.YtcghnnhhgngddaaDoor.PuDebtSettled
set_option linter.unusedVariables false
set_option linter.unusedSimpArgs false
theorem valid_bd {p : Int} {l : List D} (h : valid p l = true) : 1 ≤ p ∧ p ≤ 16 ∧ l.length ≤ 60 ∧ ∀ d ∈ l, 0 ≤ d.f0 ∧ d.f0 < p ∧ 0 ≤ d.f1 ∧ d.f1 < p ∧ d.f0 ≠ d.f1 ∧ 1 ≤ d.f2 ∧ d.f2 ≤ 100000000 := by
  simp only [valid, Bool.and_eq_true, decide_eq_true_eq, List.all_eq_true] at h
  exact ⟨h.1.1, h.1.2.1, h.1.2.2, fun d hd => of_decide_eq_true (h.2 d hd)⟩
def netW (x : List Int) (d : D) : List Int :=
  (x.set d.f0.toNat (wrap64 (rd x d.f0 - d.f2))).set d.f1.toNat (wrap64 (rd (x.set d.f0.toNat (wrap64 (rd x d.f0 - d.f2))) d.f1 + d.f2))
def netsW (p : Int) (l : List D) : List Int := l.foldl netW (List.replicate p.toNat 0)
theorem netW_length (x : List Int) (d : D) : (netW x d).length = x.length := by simp [netW]
theorem fold_drop (l : List D) (x : List Int) (i : Nat) (h : i < l.length) : (l.drop i).foldl netW x = (l.drop (i + 1)).foldl netW (netW x l[i]) := by
  rw [List.drop_eq_getElem_cons h]; rfl
theorem netsI_ev (p : Int) (l : List D) (hv : valid p l = true) : Ev (fun k => impl_nets.f k p l) (netsW p l) := by
  obtain ⟨hp, hp2, h60, hd⟩ := valid_bd hv
  unfold impl_nets.f netsW
  refine ev_pos (by omega) (ev_pos (by omega) ?_)
  exact ev_forI (n := l.length) (G := fun k s i => impl_nets.l0 k s l (l.length : Int) i) (F := fun s i => (l.drop i).foldl netW s) (I := fun s _ => (s.length : Int) = p)
      (fun i hi ih s hI => by
        have hb := hd l[i] (List.getElem_mem hi)
        refine ev_eq (Ev.step (f := fun k => impl_nets.l0 k (netW s l[i]) l (l.length : Int) ((i : Int) + 1)) (fun k => ?_) (ih (netW s l[i]) (by rw [netW_length]; exact hI))) ?_
        · simp only [impl_nets.l0, Option.bind_some]
          rw [if_pos (by omega), if_pos (by omega), if_pos (by omega), rdD l i hi, if_pos (by omega), if_pos (by omega), if_pos (by omega), if_pos (by omega), wrap_up hi (by omega)]
          rfl
        · rw [fold_drop l s i hi])
      (fun s hI => by
        refine ev_eq (Ev.step (f := fun _ => some s) (fun k => ?_) (Ev.now _)) ?_
        · simp only [impl_nets.l0]; rw [if_neg (by omega)]
        · simp) 0 (by omega) _ (by rw [List.length_replicate]; omega)
def netsR (p : Int) (l : List D) : List Int × Int := if valid p l = true then (netsW p l, 0) else ([], 1)
theorem netsW_length (p : Int) (l : List D) : (netsW p l).length = p.toNat := by
  unfold netsW
  have : ∀ (l : List D) (x : List Int), (l.foldl netW x).length = x.length := by
    intro l
    induction l with
    | nil => intro x; rfl
    | cons d l ih => intro x; rw [List.foldl_cons, ih, netW_length]
  rw [this, List.length_replicate]
theorem NetsI_ev (p : Int) (l : List D) (hl : l.length ≤ maxLen) : Ev (fun k => impl_NetsOf.f k p l) (netsR p l) := by
  unfold impl_NetsOf.f netsR
  refine Ev.bind (ValidI_ev p l hl) ?_
  by_cases hv : valid p l = true
  · refine ev_pos hv (Ev.bind (netsI_ev p l hv) ?_)
    rw [if_pos hv]; exact Ev.now _
  · refine ev_neg hv ?_
    rw [if_neg hv]; exact Ev.now _
end Go.Proofs.YtcghnnhhgngddaaDoor.PuSumNetsSettled
-- a text of this session, cut down for this claim
namespace Go.Proofs.YtcghnnhhgngddaaDoor.PuZeroSettled
open Go.RowKit Go.Proofs.YtcghnnhhgngddaaDoor.MSettled Go.Proofs.YtcghnnhhgngddaaDoorW.PrintWords Go.Proofs.YtcghnnhhgngddaaDoorW.PrintLast Go.Proofs.YtcghnnhhgngddaaDoor.Evs
set_option linter.unusedVariables false
set_option linter.unusedSimpArgs false
def inA (z : Int) : Bool := decide (-100000000 ≤ z ∧ z ≤ 100000000)
def nets0 (x : List Int) : Bool := decide (1 ≤ x.length ∧ x.length ≤ 16) && (x.all inA && x.sum == 0)
theorem all_drop (x : List Int) (i : Nat) (h : i < x.length) : (x.drop i).all inA = (inA x[i] && (x.drop (i + 1)).all inA) := by
  rw [List.drop_eq_getElem_cons h]; rfl
theorem sum_drop (x : List Int) (i : Nat) (h : i < x.length) : (x.drop i).sum = x[i] + (x.drop (i + 1)).sum := by
  rw [List.drop_eq_getElem_cons h]; rfl
theorem in_s (a b c : Int) : spec_l00In.f a b c = some (decide (b ≤ a ∧ a ≤ c)) := by
  unfold spec_l00In.f
  by_cases h : a ≥ b
  · rw [if_pos h]; congr 1; simp [show b ≤ a from h]
  · rw [if_neg h]; congr 1; simp [show ¬ b ≤ a from h]
theorem ZeroS_ev (x : List Int) (hl : x.length ≤ maxLen) : Ev (fun k => spec_l02Zero.f k x) (nets0 x) := by
  unfold spec_l02Zero.f nets0
  unfold maxLen at hl
  rw [in_s]
  by_cases h : 1 ≤ x.length ∧ x.length ≤ 16
  · refine ev_bind0 rfl (ev_pos (by simpa using by omega) ?_)
    refine ev_eq (ev_forI (n := x.length) (G := fun k s i => spec_l02Zero.l0 k x s i) (F := fun s i => (x.drop i).all inA && (s + (x.drop i).sum == 0)) (I := fun s i => -((i : Int) * 100000000) ≤ s ∧ s ≤ (i : Int) * 100000000)
      (fun i hi ih s hI => by
        by_cases hk : inA x[i] = true
        · have hb := of_decide_eq_true hk
          refine ev_eq (Ev.step (f := fun k => spec_l02Zero.l0 k x (s + x[i]) ((i : Int) + 1)) (fun k => ?_) (ih (s + x[i]) ⟨by omega, by omega⟩)) ?_
          · simp only [spec_l02Zero.l0]
            rw [if_pos (by omega), if_pos (by omega), show rd x (i : Int) = x[i] from getD_lt x _ i hi, in_s, wrap_up hi (by omega), wrap_id (by omega) (by omega)]
            simp only [Option.bind_some]
            rw [if_pos (by simpa using hb)]
          · rw [all_drop x i hi, sum_drop x i hi, hk, Int.add_assoc]; rfl
        · have hb := of_decide_eq_false (Bool.eq_false_iff.mpr hk)
          refine ev_eq (Ev.step (f := fun _ => some false) (fun k => ?_) (Ev.now _)) ?_
          · simp only [spec_l02Zero.l0]
            rw [if_pos (by omega), if_pos (by omega), show rd x (i : Int) = x[i] from getD_lt x _ i hi, in_s]
            simp only [Option.bind_some]
            rw [if_neg (by simpa using hb)]
          · rw [all_drop x i hi, Bool.eq_false_iff.mpr hk]; rfl)
      (fun s hI => by
        refine ev_eq (Ev.step (f := fun _ => some (s == 0)) (fun k => ?_) (Ev.now _)) ?_
        · simp only [spec_l02Zero.l0]; rw [if_neg (by omega)]
        · simp) 0 (by omega) 0 (by simp)) ?_
    simp [h]
  · refine ev_bind0 rfl (ev_neg (by simpa using by omega) (ev_eq (Ev.now _) ?_))
    rw [decide_eq_false h]; rfl
theorem ZeroI_ev (x : List Int) (hl : x.length ≤ maxLen) : Ev (fun k => impl_areNets.f k x) (nets0 x) := by
  unfold impl_areNets.f nets0
  unfold maxLen at hl
  have hj : ∀ k, impl_areNets.j0 (k + 1) x true = some false := fun k => by simp only [impl_areNets.j0]; rfl
  by_cases h1 : (x.length : Int) < 1
  · refine ev_pos h1 (ev_eq (Ev.step (f := fun _ => some false) hj (Ev.now _)) ?_)
    rw [decide_eq_false (show ¬ (1 ≤ x.length ∧ x.length ≤ 16) by omega)]; rfl
  · refine ev_neg h1 ?_
    by_cases h2 : (x.length : Int) > 16
    · rw [decide_eq_true h2]
      refine ev_eq (Ev.step (f := fun _ => some false) hj (Ev.now _)) ?_
      rw [decide_eq_false (show ¬ (1 ≤ x.length ∧ x.length ≤ 16) by omega)]; rfl
    · rw [decide_eq_false h2]
      refine Ev.step (f := fun k => impl_areNets.l0 k 0 x (x.length : Int) 0) (fun k => by simp only [impl_areNets.j0]; rfl) ?_
      refine ev_eq (ev_forI (n := x.length) (G := fun k s i => impl_areNets.l0 k s x (x.length : Int) i) (F := fun s i => (x.drop i).all inA && (s + (x.drop i).sum == 0)) (I := fun s i => -((i : Int) * 100000000) ≤ s ∧ s ≤ (i : Int) * 100000000)
        (fun i hi ih s hI => by
          by_cases hk : inA x[i] = true
          · have hb := of_decide_eq_true hk
            refine ev_eq (Ev.step (f := fun k => impl_areNets.l0 k (s + x[i]) x (x.length : Int) ((i : Int) + 1)) (fun k => ?_) (ih (s + x[i]) ⟨by omega, by omega⟩)) ?_
            · simp only [impl_areNets.l0]
              rw [if_pos (by omega), if_pos (by omega), if_pos (by omega), show rd x (i : Int) = x[i] from getD_lt x _ i hi, if_neg (by omega), if_neg (by omega), wrap_up hi (by omega), wrap_id (by omega) (by omega)]
            · rw [all_drop x i hi, sum_drop x i hi, hk, Int.add_assoc]; rfl
          · have hb := of_decide_eq_false (Bool.eq_false_iff.mpr hk)
            refine ev_eq (Ev.step (f := fun _ => some false) (fun k => ?_) (Ev.now _)) ?_
            · simp only [impl_areNets.l0]
              rw [if_pos (by omega), if_pos (by omega), if_pos (by omega), show rd x (i : Int) = x[i] from getD_lt x _ i hi]
              by_cases h3 : x[i] < -100000000
              · rw [if_pos h3]
              · rw [if_neg h3, if_pos (by omega)]
            · rw [all_drop x i hi, Bool.eq_false_iff.mpr hk]; rfl)
        (fun s hI => by
          refine ev_eq (Ev.step (f := fun _ => some (s == 0)) (fun k => ?_) (Ev.now _)) ?_
          · simp only [impl_areNets.l0]; rw [if_neg (by omega)]
          · simp) 0 (by omega) 0 (by simp)) ?_
      rw [decide_eq_true (show 1 ≤ x.length ∧ x.length ≤ 16 by omega)]; simp
end Go.Proofs.YtcghnnhhgngddaaDoor.PuZeroSettled
-- a text of this session, cut down for this claim
namespace Go.Proofs.YtcghnnhhgngddaaDoor.PuSubSettled
set_option linter.unusedVariables false
def Sb (p s : Nat) : Prop := p &&& s = p
theorem half_and (a b : Nat) : (a &&& b) / 2 = a / 2 &&& b / 2 := by
  apply Nat.eq_of_testBit_eq; intro i
  rw [Nat.testBit_and, ← Nat.testBit_succ, ← Nat.testBit_succ, ← Nat.testBit_succ, Nat.testBit_and]
theorem odd_and (a b : Nat) : (a &&& b) % 2 = (a % 2) * (b % 2) := by
  have h := Nat.testBit_and a b 0
  simp only [Nat.testBit_zero] at h
  rcases Nat.mod_two_eq_zero_or_one a with ha | ha <;> rcases Nat.mod_two_eq_zero_or_one b with hb | hb <;> rcases Nat.mod_two_eq_zero_or_one (a &&& b) with hc | hc <;> simp [ha, hb, hc] at h ⊢
theorem Sb_iff (p s : Nat) : Sb p s ↔ (p % 2 ≤ s % 2 ∧ Sb (p / 2) (s / 2)) := by
  unfold Sb
  have h1 := half_and p s
  have h2 := odd_and p s
  constructor
  · intro h
    rw [h] at h1 h2
    refine ⟨?_, h1.symm⟩
    rcases Nat.mod_two_eq_zero_or_one p with ha | ha <;> rcases Nat.mod_two_eq_zero_or_one s with hb | hb <;> rw [ha, hb] at h2 ⊢ <;> omega
  · rintro ⟨ho, hh⟩
    rw [hh] at h1
    rcases Nat.mod_two_eq_zero_or_one p with ha | ha <;> rcases Nat.mod_two_eq_zero_or_one s with hb | hb <;> rw [ha, hb] at h2 ho <;> omega
theorem Sb_le {p s : Nat} (h : Sb p s) : p ≤ s := by
  have := Nat.and_le_right (n := p) (m := s)
  unfold Sb at h; omega
theorem Sb_and (p s : Nat) : Sb (p &&& s) s := by unfold Sb; rw [Nat.and_assoc, Nat.and_self]
theorem Sb_refl (s : Nat) : Sb s s := Nat.and_self s
theorem Sb_bit {p s : Nat} : Sb p s ↔ ∀ i, p.testBit i = true → s.testBit i = true := by
  unfold Sb
  constructor
  · intro h i hp
    rw [← h, Nat.testBit_and, Bool.and_eq_true] at hp
    exact hp.2
  · intro h
    apply Nat.eq_of_testBit_eq; intro i
    rw [Nat.testBit_and]
    cases hp : p.testBit i
    · rfl
    · rw [h i hp]; rfl
theorem Sb_trans {a b c : Nat} (h : Sb a b) (h2 : Sb b c) : Sb a c := Sb_bit.2 fun i hi => Sb_bit.1 h2 i (Sb_bit.1 h i hi)
def nx (p s : Nat) : Nat := (p - 1) &&& s
theorem nx_lt {p s : Nat} (h : 0 < p) : nx p s < p := by
  have := Nat.and_le_left (n := p - 1) (m := s)
  unfold nx; omega
theorem nx_top : ∀ (n s p q : Nat), s < n → 0 < p → Sb p s → Sb q s → q < p → q ≤ nx p s
  | 0, s, p, q, hn, _, _, _, _ => by omega
  | n + 1, s, p, q, hn, h0, hp, hq, hlt => by
    have h1 := (Sb_iff p s).1 hp
    have h2 := (Sb_iff q s).1 hq
    have hps := Sb_le hp
    have a1 := half_and (p - 1) s
    have a2 := odd_and (p - 1) s
    unfold nx
    rcases Nat.mod_two_eq_zero_or_one p with e | e
    · have ih := nx_top n (s / 2) (p / 2) (q / 2) (by omega) (by omega) h1.2 h2.2 (by omega)
      unfold nx at ih
      have e1 : (p - 1) / 2 = p / 2 - 1 := by omega
      have e2 : (p - 1) % 2 = 1 := by omega
      rw [e1] at a1
      rw [e2] at a2
      omega
    · have e1 : (p - 1) / 2 = p / 2 := by omega
      have e3 : p / 2 &&& s / 2 = p / 2 := h1.2
      rw [e1, e3] at a1
      omega
def subs (s : Nat) : Nat → List Nat
  | p => if h : 0 < p then (if 0 < nx p s then nx p s :: subs s (nx p s) else []) else []
termination_by p => p
decreasing_by exact nx_lt h
theorem subs_mem (s : Nat) : ∀ (n p : Nat), p < n → Sb p s → ∀ q, q ∈ subs s p ↔ (0 < q ∧ q < p ∧ Sb q s)
  | 0, p, hn, _, q => by omega
  | n + 1, p, hn, hp, q => by
    unfold subs
    by_cases h0 : 0 < p
    · rw [dif_pos h0]
      have hx := nx_lt (s := s) h0
      have hs : Sb (nx p s) s := Sb_and _ _
      by_cases h1 : 0 < nx p s
      · rw [if_pos h1, List.mem_cons, subs_mem s n (nx p s) (by omega) hs]
        constructor
        · rintro (h | h)
          · rw [h]; exact ⟨h1, hx, hs⟩
          · exact ⟨h.1, by omega, h.2.2⟩
        · rintro ⟨h2, h3, h4⟩
          have := nx_top (s + 1) s p q (by omega) h0 hp h4 h3
          by_cases e : q = nx p s
          · exact Or.inl e
          · exact Or.inr ⟨h2, by omega, h4⟩
      · rw [if_neg h1]
        constructor
        · intro h; cases h
        · rintro ⟨h2, h3, h4⟩
          have := nx_top (s + 1) s p q (by omega) h0 hp h4 h3
          omega
    · rw [dif_neg h0]
      constructor
      · intro h; cases h
      · rintro ⟨h2, h3, h4⟩; omega
theorem sub_bit : ∀ (n s p : Nat), s < n → Sb p s → ∀ i, (s - p).testBit i = (s.testBit i && !p.testBit i)
  | 0, s, p, hn, _, i => by omega
  | n + 1, s, p, hn, hp, i => by
    have h1 := (Sb_iff p s).1 hp
    have hle := Sb_le hp
    have hle2 := Sb_le h1.2
    have e1 : (s - p) / 2 = s / 2 - p / 2 := by omega
    cases i with
    | zero =>
      simp only [Nat.testBit_zero]
      rcases Nat.mod_two_eq_zero_or_one p with ha | ha <;> rcases Nat.mod_two_eq_zero_or_one s with hb | hb
      · rw [show (s - p) % 2 = 0 by omega, ha, hb]; decide
      · rw [show (s - p) % 2 = 1 by omega, ha, hb]; decide
      · omega
      · rw [show (s - p) % 2 = 0 by omega, ha, hb]; decide
    | succ i =>
      rw [Nat.testBit_succ, Nat.testBit_succ, Nat.testBit_succ, e1]
      by_cases hz : s = 0
      · subst hz; simp
      · exact sub_bit n (s / 2) (p / 2) (by omega) h1.2 i
theorem sub_Sb {s p : Nat} (h : Sb p s) : Sb (s - p) s := Sb_bit.2 fun i hi => by
  rw [sub_bit (s + 1) s p (by omega) h, Bool.and_eq_true] at hi
  exact hi.1
theorem sub_sub_Sb {s p q : Nat} (hp : Sb p s) (hq : Sb q p) : Sb (p - q) (s - q) := Sb_bit.2 fun i hi => by
  rw [sub_bit (p + 1) p q (by omega) hq, Bool.and_eq_true] at hi
  rw [sub_bit (s + 1) s q (by omega) (Sb_trans hq hp), Sb_bit.1 hp i hi.1]
  exact hi.2
def sm : List Int → Nat → Int
  | [], _ => 0
  | v :: vs, s => (if s % 2 = 1 then v else 0) + sm vs (s / 2)
theorem sm_zero : ∀ vs : List Int, sm vs 0 = 0
  | [] => rfl
  | v :: vs => by simp [sm, sm_zero vs]
theorem sm_sub : ∀ (vs : List Int) (s p : Nat), Sb p s → sm vs (s - p) = sm vs s - sm vs p
  | [], _, _, _ => rfl
  | v :: vs, s, p, h => by
    have h1 := (Sb_iff p s).1 h
    have hle := Sb_le h
    have hle2 := Sb_le h1.2
    have e1 : (s - p) / 2 = s / 2 - p / 2 := by omega
    have ih := sm_sub vs (s / 2) (p / 2) h1.2
    simp only [sm, e1, ih]
    rcases Nat.mod_two_eq_zero_or_one p with ha | ha <;> rcases Nat.mod_two_eq_zero_or_one s with hb | hb
    · rw [show (s - p) % 2 = 0 by omega, ha, hb]; simp
    · rw [show (s - p) % 2 = 1 by omega, ha, hb]; simp; omega
    · omega
    · rw [show (s - p) % 2 = 0 by omega, ha, hb]; simp; omega
def tab (F : (Nat → Int) → Nat → Int) : Nat → List Int
  | 0 => []
  | n + 1 => tab F n ++ [F (fun i => (tab F n).getD i 0) n]
def val (F : (Nat → Int) → Nat → Int) (s : Nat) : Int := (tab F (s + 1)).getD s 0
theorem tab_len (F : (Nat → Int) → Nat → Int) : ∀ n, (tab F n).length = n
  | 0 => rfl
  | n + 1 => by simp [tab, tab_len F n]
theorem tab_get (F : (Nat → Int) → Nat → Int) : ∀ n s, s < n → (tab F n).getD s 0 = val F s
  | 0, s, h => by omega
  | n + 1, s, h => by
    by_cases e : s = n
    · subst e; rfl
    · have hl := tab_len F n
      rw [← tab_get F n s (by omega)]
      simp only [tab]
      rw [List.getD_eq_getElem?_getD, List.getElem?_append_left (by omega), ← List.getD_eq_getElem?_getD]
def Low (F : (Nat → Int) → Nat → Int) : Prop := ∀ f g s, (∀ i, i < s → f i = g i) → F f s = F g s
theorem val_eq {F : (Nat → Int) → Nat → Int} (h : Low F) (s : Nat) : val F s = F (val F) s := by
  have hl := tab_len F s
  unfold val
  simp only [tab]
  rw [List.getD_eq_getElem?_getD, List.getElem?_append_right (by omega), hl, Nat.sub_self]
  simp only [List.getElem?_cons_zero, Option.getD_some]
  exact h _ _ s (fun i hi => tab_get F s i hi)
theorem tab_next {F : (Nat → Int) → Nat → Int} (h : Low F) (n : Nat) : tab F (n + 1) = tab F n ++ [val F n] := by
  have hl := tab_len F n
  have : val F n = F (fun i => (tab F n).getD i 0) n := by
    rw [val_eq h]
    exact h _ _ n (fun i hi => (tab_get F n i hi).symm)
  rw [this]; rfl
def best (c : Nat → Bool) (v : Nat → Int) (m : Int) (l : List Nat) : Int := l.foldl (fun m q => if c q = true then max m (v q) else m) m
theorem best_ge (c : Nat → Bool) (v : Nat → Int) : ∀ (l : List Nat) (m : Int), m ≤ best c v m l
  | [], m => Int.le_refl m
  | q :: l, m => by
    have := best_ge c v l (if c q = true then max m (v q) else m)
    have e : best c v m (q :: l) = best c v (if c q = true then max m (v q) else m) l := rfl
    rw [e]
    split at this <;> rename_i h
    · rw [if_pos h]; omega
    · rw [if_neg h]; exact this
theorem best_mem (c : Nat → Bool) (v : Nat → Int) : ∀ (l : List Nat) (m : Int) (q : Nat), q ∈ l → c q = true → v q ≤ best c v m l
  | p :: l, m, q, h, hc => by
    have e : best c v m (p :: l) = best c v (if c p = true then max m (v p) else m) l := rfl
    rw [e]
    rcases List.mem_cons.1 h with h | h
    · subst h
      have := best_ge c v l (if c q = true then max m (v q) else m)
      rw [if_pos hc] at this ⊢
      omega
    · exact best_mem c v l _ q h hc
theorem best_ex (c : Nat → Bool) (v : Nat → Int) : ∀ (l : List Nat) (m : Int), best c v m l = m ∨ ∃ q ∈ l, c q = true ∧ best c v m l = v q
  | [], m => Or.inl rfl
  | p :: l, m => by
    have e : best c v m (p :: l) = best c v (if c p = true then max m (v p) else m) l := rfl
    rw [e]
    rcases best_ex c v l (if c p = true then max m (v p) else m) with h | ⟨q, hq, hc, h⟩
    · by_cases hp : c p = true
      · rw [if_pos hp] at h ⊢
        by_cases hm : m ≤ v p
        · exact Or.inr ⟨p, List.mem_cons_self, hp, by omega⟩
        · exact Or.inl (by omega)
      · rw [if_neg hp] at h ⊢; exact Or.inl h
    · exact Or.inr ⟨q, List.mem_cons_of_mem _ hq, hc, h⟩
theorem best_congr (c c2 : Nat → Bool) (v v2 : Nat → Int) : ∀ (l : List Nat) (m : Int), (∀ q ∈ l, c q = c2 q ∧ v q = v2 q) → best c v m l = best c2 v2 m l
  | [], m, _ => rfl
  | p :: l, m, h => by
    have e : best c v m (p :: l) = best c v (if c p = true then max m (v p) else m) l := rfl
    have e2 : best c2 v2 m (p :: l) = best c2 v2 (if c2 p = true then max m (v2 p) else m) l := rfl
    have hp := h p List.mem_cons_self
    rw [e, e2, hp.1, hp.2]
    exact best_congr c c2 v v2 l _ (fun q hq => h q (List.mem_cons_of_mem _ hq))
def FB (vs : List Int) (f : Nat → Int) (s : Nat) : Int :=
  if s = 0 then 0 else if sm vs s = 0 then best (fun q => decide (sm vs q = 0)) (fun q => 1 + f (s - q)) 1 (subs s s) else 0
def FG (vs : List Int) (f : Nat → Int) (s : Nat) : Int :=
  if s = 0 then 0 else if sm vs s = 0 then best (fun q => decide (0 < f q ∧ 0 < f (s - q))) (fun q => f q + f (s - q)) 1 (subs s s) else -1
theorem subs_lt {s q : Nat} (h : q ∈ subs s s) : 0 < q ∧ q < s ∧ Sb q s := (subs_mem s (s + 1) s (by omega) (Sb_refl s) q).1 h
theorem FB_low (vs : List Int) : Low (FB vs) := fun f g s h => by
  unfold FB
  split
  · rfl
  · split
    · exact best_congr _ _ _ _ _ _ (fun q hq => ⟨rfl, by rw [h (s - q) (by have := subs_lt hq; omega)]⟩)
    · rfl
theorem FG_low (vs : List Int) : Low (FG vs) := fun f g s h => by
  unfold FG
  split
  · rfl
  · split
    · exact best_congr _ _ _ _ _ _ (fun q hq => by
        have := subs_lt hq
        rw [h (s - q) (by omega), h q (by omega)]
        exact ⟨rfl, rfl⟩)
    · rfl
def B (vs : List Int) (s : Nat) : Int := val (FB vs) s
def G (vs : List Int) (s : Nat) : Int := val (FG vs) s
theorem B_no (vs : List Int) {s : Nat} (h : sm vs s ≠ 0) : B vs s = 0 := by
  unfold B
  rw [val_eq (FB_low vs)]
  unfold FB
  rw [if_neg h]
  split <;> rfl
theorem G_no (vs : List Int) {s : Nat} (h : sm vs s ≠ 0) : G vs s = -1 := by
  unfold G
  rw [val_eq (FG_low vs)]
  unfold FG
  rw [if_neg h, if_neg (fun e => h (by rw [e]; exact sm_zero vs))]
theorem B_yes (vs : List Int) {s : Nat} (h0 : s ≠ 0) (h : sm vs s = 0) : B vs s = best (fun q => decide (sm vs q = 0)) (fun q => 1 + B vs (s - q)) 1 (subs s s) := by
  unfold B
  rw [val_eq (FB_low vs)]
  rw [FB, if_neg h0, if_pos h]
theorem G_yes (vs : List Int) {s : Nat} (h0 : s ≠ 0) (h : sm vs s = 0) : G vs s = best (fun q => decide (0 < G vs q ∧ 0 < G vs (s - q))) (fun q => G vs q + G vs (s - q)) 1 (subs s s) := by
  unfold G
  rw [val_eq (FG_low vs)]
  rw [FG, if_neg h0, if_pos h]
theorem G_zero (vs : List Int) : G vs 0 = 0 := rfl
theorem B_zero (vs : List Int) : B vs 0 = 0 := rfl
theorem G_pos (vs : List Int) {s : Nat} (h0 : s ≠ 0) (h : sm vs s = 0) : 1 ≤ G vs s := by
  rw [G_yes vs h0 h]; exact best_ge _ _ _ _
theorem G_pos_iff (vs : List Int) {s : Nat} (h0 : s ≠ 0) : 0 < G vs s ↔ sm vs s = 0 := by
  constructor
  · intro h
    by_cases e : sm vs s = 0
    · exact e
    · rw [G_no vs e] at h; omega
  · intro h
    have := G_pos vs h0 h; omega
theorem G_add (vs : List Int) {s p : Nat} (h : sm vs s = 0) (hp : Sb p s) (h0 : 0 < p) (hlt : p < s) (hz : sm vs p = 0) : G vs p + G vs (s - p) ≤ G vs s := by
  have hz2 : sm vs (s - p) = 0 := by rw [sm_sub vs s p hp]; omega
  have h1 := G_pos vs (by omega : p ≠ 0) hz
  have h2 := G_pos vs (by omega : s - p ≠ 0) hz2
  rw [G_yes vs (by omega : s ≠ 0) h]
  exact best_mem _ (fun q => G vs q + G vs (s - q)) _ _ p ((subs_mem s (s + 1) s (by omega) (Sb_refl s) p).2 ⟨h0, hlt, hp⟩) (by simp; omega)
theorem B_G (vs : List Int) : ∀ (n s : Nat), s < n → sm vs s = 0 → B vs s = G vs s
  | 0, s, hn, _ => by omega
  | n + 1, s, hn, h => by
    by_cases h0 : s = 0
    · subst h0; rfl
    have hle : B vs s ≤ G vs s := by
      rw [B_yes vs h0 h]
      rcases best_ex (fun q => decide (sm vs q = 0)) (fun q => 1 + B vs (s - q)) (subs s s) 1 with e | ⟨q, hq, hc, e⟩
      · rw [e]; exact G_pos vs h0 h
      · rw [e]
        have hq := subs_lt hq
        have hc : sm vs q = 0 := of_decide_eq_true hc
        have hz2 : sm vs (s - q) = 0 := by rw [sm_sub vs s q hq.2.2]; omega
        rw [B_G vs n (s - q) (by omega) hz2]
        have h1 := G_pos vs (by omega : q ≠ 0) hc
        have h2 := G_add vs h hq.2.2 hq.1 hq.2.1 hc
        omega
    have hge : G vs s ≤ B vs s := by
      have hb1 : 1 ≤ B vs s := by rw [B_yes vs h0 h]; exact best_ge _ _ _ _
      have hb : ∀ q, 0 < q → q < s → Sb q s → sm vs q = 0 → 1 + G vs (s - q) ≤ B vs s := by
        intro q q0 q1 q2 q3
        have hz2 : sm vs (s - q) = 0 := by rw [sm_sub vs s q q2]; omega
        rw [← B_G vs n (s - q) (by omega) hz2, B_yes vs h0 h]
        exact best_mem _ (fun q => 1 + B vs (s - q)) _ _ q ((subs_mem s (s + 1) s (by omega) (Sb_refl s) q).2 ⟨q0, q1, q2⟩) (by simp [q3])
      rw [G_yes vs h0 h]
      rcases best_ex (fun q => decide (0 < G vs q ∧ 0 < G vs (s - q))) (fun q => G vs q + G vs (s - q)) (subs s s) 1 with e | ⟨p, hp, hc, e⟩
      · rw [e]; exact hb1
      · rw [e]
        have hp := subs_lt hp
        have hc := of_decide_eq_true hc
        have hpz : sm vs p = 0 := (G_pos_iff vs (by omega)).1 hc.1
        rw [show G vs p = B vs p from (B_G vs n p (by omega) hpz).symm, B_yes vs (by omega : p ≠ 0) hpz]
        rcases best_ex (fun q => decide (sm vs q = 0)) (fun q => 1 + B vs (p - q)) (subs p p) 1 with e | ⟨q, hq, hc2, e⟩
        · rw [e]; exact hb p hp.1 hp.2.1 hp.2.2 hpz
        · rw [e]
          have hq := subs_lt hq
          have hqz : sm vs q = 0 := of_decide_eq_true hc2
          have hqs := Sb_trans hq.2.2 hp.2.2
          have hz2 : sm vs (p - q) = 0 := by rw [sm_sub vs p q hq.2.2]; omega
          have hz3 : sm vs (s - q) = 0 := by rw [sm_sub vs s q hqs]; omega
          rw [B_G vs n (p - q) (by omega) hz2]
          have h1 := G_add vs hz3 (sub_sub_Sb hp.2.2 hq.2.2) (by omega) (by omega) hz2
          rw [show s - q - (p - q) = s - p by omega] at h1
          have h2 := hb q hq.1 (by omega) hqs hqz
          omega
    omega
theorem G_first (vs : List Int) : ∀ (n s i : Nat), s < n → s.testBit i = true → sm vs s = 0 → ∃ p, Sb p s ∧ p.testBit i = true ∧ sm vs p = 0 ∧ G vs p = 1 ∧ (p = s ∨ (p < s ∧ G vs (s - p) + 1 = G vs s))
  | 0, s, i, hn, _, _ => by omega
  | n + 1, s, i, hn, hi, h => by
    have h0 : s ≠ 0 := fun e => by rw [e] at hi; simp at hi
    by_cases h1 : G vs s = 1
    · exact ⟨s, Sb_refl s, hi, h, h1, Or.inl rfl⟩
    have main : ∀ r, Sb r s → 0 < r → r < s → sm vs r = 0 → G vs r + G vs (s - r) = G vs s → r.testBit i = true → ∃ p, Sb p s ∧ p.testBit i = true ∧ sm vs p = 0 ∧ G vs p = 1 ∧ (p = s ∨ (p < s ∧ G vs (s - p) + 1 = G vs s)) := by
      intro r hr r0 r1 hz hg hri
      obtain ⟨p, p1, p2, p3, p4, p5⟩ := G_first vs n r i (by omega) hri hz
      have hps := Sb_trans p1 hr
      have hp0 : p ≠ 0 := fun e => by rw [e] at p2; simp at p2
      have hple := Sb_le p1
      refine ⟨p, hps, p2, p3, p4, Or.inr ⟨by omega, ?_⟩⟩
      rcases p5 with e | ⟨e, e2⟩
      · subst e; omega
      · have a := G_add vs h hps (by omega) (by omega) p3
        have hz2 : sm vs (s - p) = 0 := by rw [sm_sub vs s p hps]; omega
        have hz3 : sm vs (r - p) = 0 := by rw [sm_sub vs r p p1]; omega
        have b := G_add vs hz2 (sub_sub_Sb hr p1) (by omega) (by omega) hz3
        rw [show s - p - (r - p) = s - r by omega] at b
        omega
    have hy := G_yes vs h0 h
    rcases best_ex (fun q => decide (0 < G vs q ∧ 0 < G vs (s - q))) (fun q => G vs q + G vs (s - q)) (subs s s) 1 with e | ⟨q, hq, hc, e⟩
    · rw [e] at hy; exact absurd hy h1
    · rw [e] at hy
      have hq := subs_lt hq
      have hc := of_decide_eq_true hc
      have hqz : sm vs q = 0 := (G_pos_iff vs (by omega)).1 hc.1
      by_cases hqi : q.testBit i = true
      · exact main q hq.2.2 hq.1 hq.2.1 hqz hy.symm hqi
      · have hz2 : sm vs (s - q) = 0 := by rw [sm_sub vs s q hq.2.2]; omega
        refine main (s - q) (sub_Sb hq.2.2) (by omega) (by omega) hz2 ?_ ?_
        · rw [show s - (s - q) = q by omega, hy]; omega
        · rw [sub_bit (s + 1) s q (by omega) hq.2.2, hi, Bool.eq_false_iff.mpr hqi]; rfl
def mem (n s : Nat) : List Nat := (List.range n).filter fun i => s.testBit i
def lexLt : List Nat → List Nat → Bool
  | _, [] => false
  | [], _ :: _ => true
  | a :: x, b :: y => if a = b then lexLt x y else decide (a < b)
def pick (c : Nat → Bool) (n : Nat) (g : Nat) (l : List Nat) : Nat := l.foldl (fun g p => if c p = true then (if g = 0 ∨ lexLt (mem n p) (mem n g) = true then p else g) else g) g
theorem pick_cons (c : Nat → Bool) (n g p : Nat) (l : List Nat) : pick c n g (p :: l) = pick c n (if c p = true then (if g = 0 ∨ lexLt (mem n p) (mem n g) = true then p else g) else g) l := rfl
theorem pick_in (c : Nat → Bool) (n : Nat) : ∀ (l : List Nat) (g : Nat), pick c n g l = g ∨ (pick c n g l ∈ l ∧ c (pick c n g l) = true)
  | [], g => Or.inl rfl
  | p :: l, g => by
    rw [pick_cons]
    rcases pick_in c n l (if c p = true then (if g = 0 ∨ lexLt (mem n p) (mem n g) = true then p else g) else g) with h | h
    · by_cases hc : c p = true
      · rw [if_pos hc] at h ⊢
        split at h <;> rename_i h2
        · rw [if_pos h2, h]; exact Or.inr ⟨List.mem_cons_self, hc⟩
        · rw [if_neg h2, h]; exact Or.inl rfl
      · rw [if_neg hc] at h ⊢; exact Or.inl h
    · exact Or.inr ⟨List.mem_cons_of_mem _ h.1, h.2⟩
theorem pick_pos (c : Nat → Bool) (n : Nat) : ∀ (l : List Nat) (g : Nat), (∀ p ∈ l, 0 < p) → (0 < g ∨ ∃ p ∈ l, c p = true) → 0 < pick c n g l
  | [], g, _, h => by
    rcases h with h | ⟨p, hp, _⟩
    · exact h
    · cases hp
  | p :: l, g, hl, h => by
    rw [pick_cons]
    refine pick_pos c n l _ (fun q hq => hl q (List.mem_cons_of_mem _ hq)) ?_
    have hp := hl p List.mem_cons_self
    by_cases hc : c p = true
    · rw [if_pos hc]
      refine Or.inl ?_
      split <;> omega
    · rw [if_neg hc]
      rcases h with h | ⟨q, hq, hcq⟩
      · exact Or.inl h
      · rcases List.mem_cons.1 hq with e | e
        · rw [e] at hcq; exact absurd hcq hc
        · exact Or.inr ⟨q, e, hcq⟩
theorem pick_congr (c c2 : Nat → Bool) (n : Nat) : ∀ (l : List Nat) (g : Nat), (∀ p ∈ l, c p = c2 p) → pick c n g l = pick c2 n g l
  | [], g, _ => rfl
  | p :: l, g, h => by
    rw [pick_cons, pick_cons, h p List.mem_cons_self]
    exact pick_congr c c2 n l _ (fun q hq => h q (List.mem_cons_of_mem _ hq))
def cI (vs : List Int) (i s p : Nat) : Bool := p.testBit i && decide (sm vs p = 0) && decide (1 + B vs (s - p) = B vs s)
def cS (vs : List Int) (i s p : Nat) : Bool := p.testBit i && decide (G vs p = 1) && decide (if p = s then G vs s = 1 else G vs (s - p) = G vs s - 1)
theorem c_eq (vs : List Int) (i s p : Nat) (h : sm vs s = 0) (hp : Sb p s) (hp0 : 0 < p) : cI vs i s p = cS vs i s p := by
  unfold cI cS
  cases p.testBit i
  · rfl
  rw [Bool.true_and, Bool.true_and, Bool.eq_iff_iff, Bool.and_eq_true, Bool.and_eq_true, decide_eq_true_iff, decide_eq_true_iff, decide_eq_true_iff, decide_eq_true_iff]
  have hle := Sb_le hp
  have e1 : B vs s = G vs s := B_G vs (s + 1) s (by omega) h
  by_cases hz : sm vs p = 0
  · have hz2 : sm vs (s - p) = 0 := by rw [sm_sub vs s p hp]; omega
    have e2 : B vs (s - p) = G vs (s - p) := B_G vs (s + 1) (s - p) (by omega) hz2
    have g1 := G_pos vs (by omega : p ≠ 0) hz
    rw [e1, e2]
    by_cases e : p = s
    · subst e
      rw [if_pos rfl, Nat.sub_self, G_zero]
      constructor
      · intro h; exact ⟨by omega, by omega⟩
      · intro h; exact ⟨hz, by omega⟩
    · rw [if_neg e]
      have a := G_add vs h hp hp0 (by omega) hz
      constructor
      · intro h; exact ⟨by omega, by omega⟩
      · intro h; exact ⟨hz, by omega⟩
  · have := G_no vs hz
    constructor
    · intro h; exact absurd h.1 hz
    · intro h; omega
def first (vs : List Int) (n i s : Nat) : Nat := pick (cS vs i s) n 0 (s :: subs s s)
theorem first_I (vs : List Int) (n i s : Nat) (h : sm vs s = 0) (h0 : 0 < s) : pick (cI vs i s) n 0 (s :: subs s s) = first vs n i s := by
  refine pick_congr _ _ n _ 0 (fun p hp => ?_)
  rcases List.mem_cons.1 hp with e | e
  · subst e; exact c_eq vs i _ _ h (Sb_refl _) h0
  · have := subs_lt e
    exact c_eq vs i s p h this.2.2 this.1
theorem first_spec (vs : List Int) (n i s : Nat) (h : sm vs s = 0) (hi : s.testBit i = true) :
    0 < first vs n i s ∧ Sb (first vs n i s) s ∧ sm vs (first vs n i s) = 0 ∧ G vs (first vs n i s) = 1 ∧ G vs (s - first vs n i s) + 1 = G vs s := by
  have h0 : s ≠ 0 := fun e => by rw [e] at hi; simp at hi
  have hmem : ∀ p, p ∈ s :: subs s s ↔ (0 < p ∧ Sb p s) := by
    intro p
    rw [List.mem_cons, subs_mem s (s + 1) s (by omega) (Sb_refl s)]
    constructor
    · rintro (e | e)
      · subst e; exact ⟨by omega, Sb_refl _⟩
      · exact ⟨e.1, e.2.2⟩
    · rintro ⟨a, b⟩
      have := Sb_le b
      by_cases e : p = s
      · exact Or.inl e
      · exact Or.inr ⟨a, by omega, b⟩
  have hpos : 0 < first vs n i s := by
    refine pick_pos _ n _ 0 (fun p hp => ((hmem p).1 hp).1) (Or.inr ?_)
    obtain ⟨p, p1, p2, p3, p4, p5⟩ := G_first vs (s + 1) s i (by omega) hi h
    have hp0 : p ≠ 0 := fun e => by rw [e] at p2; simp at p2
    refine ⟨p, (hmem p).2 ⟨by omega, p1⟩, ?_⟩
    unfold cS
    rw [p2, decide_eq_true p4, Bool.true_and, Bool.true_and]
    apply decide_eq_true
    rcases p5 with e | ⟨e, e2⟩
    · subst e; rw [if_pos rfl]; exact p4
    · rw [if_neg (by omega)]; omega
  rcases pick_in (cS vs i s) n (s :: subs s s) 0 with e | ⟨e, ec⟩
  · have e' : first vs n i s = 0 := e
    omega
  · have e : first vs n i s ∈ s :: subs s s := e
    have ec : cS vs i s (first vs n i s) = true := ec
    have hm := (hmem _).1 e
    have hle := Sb_le hm.2
    unfold cS at ec
    rw [Bool.and_eq_true, Bool.and_eq_true] at ec
    have hg := of_decide_eq_true ec.1.2
    have hc := of_decide_eq_true ec.2
    refine ⟨hpos, hm.2, (G_pos_iff vs (by omega)).1 (by omega), hg, ?_⟩
    by_cases eq : first vs n i s = s
    · rw [if_pos eq] at hc
      rw [eq, Nat.sub_self, G_zero]; omega
    · rw [if_neg eq] at hc; omega
end Go.Proofs.YtcghnnhhgngddaaDoor.PuSubSettled
-- a text of this session, cut down for this claim
namespace Go.Proofs.YtcghnnhhgngddaaDoor.PuSettleSettled
open Go.RowKit Go.Proofs.YtcghnnhhgngddaaDoor.MSettled Go.Proofs.YtcghnnhhgngddaaDoorW.PrintWords Go.Proofs.YtcghnnhhgngddaaDoorW.PrintLast Go.Proofs.YtcghnnhhgngddaaDoor.Evs Go.Proofs.YtcghnnhhgngddaaDoor.PuDebtSettled Go.Proofs.YtcghnnhhgngddaaDoor.PuZeroSettled
set_option linter.unusedVariables false
set_option linter.unusedSimpArgs false
abbrev g (x : List Int) (i : Nat) : Int := x.getD i 0
theorem g_lt (x : List Int) (i : Nat) (h : i < x.length) : g x i = x[i] := getD_lt x 0 i h
theorem rd_g (x : List Int) (i : Nat) : rd x (i : Int) = g x i := rfl
def scan (x : List Int) : List Int → Nat → Nat → Nat → Nat × Nat
  | [], _, f, t => (f, t)
  | v :: l, i, f, t => scan x l (i + 1) (if v < g x f then i else f) (if v > g x t then i else t)
theorem scan_spec (x : List Int) : ∀ (l : List Int) (i f t : Nat), l = x.drop i → f < x.length → t < x.length →
    (scan x l i f t).1 < x.length ∧ (scan x l i f t).2 < x.length ∧ g x (scan x l i f t).1 ≤ g x f ∧ g x t ≤ g x (scan x l i f t).2 ∧ ∀ v ∈ l, g x (scan x l i f t).1 ≤ v ∧ v ≤ g x (scan x l i f t).2 := by
  intro l
  induction l with
  | nil => intro i f t _ hf ht; exact ⟨hf, ht, Int.le_refl _, Int.le_refl _, by simp⟩
  | cons v l ih =>
    intro i f t hl hf ht
    have hi : i < x.length := by
      have := congrArg List.length hl
      rw [List.length_drop] at this
      simp at this
      omega
    rw [List.drop_eq_getElem_cons hi] at hl
    injection hl with hv hl
    have hg : g x i = v := by rw [g_lt x i hi, hv]
    simp only [scan]
    by_cases h1 : v < g x f
    · by_cases h2 : v > g x t
      · rw [if_pos h1, if_pos h2]
        obtain ⟨a, b, c, d, e⟩ := ih (i + 1) i i hl hi hi
        refine ⟨a, b, by omega, by omega, fun u hu => ?_⟩
        rcases List.mem_cons.1 hu with rfl | hu
        · omega
        · exact e u hu
      · rw [if_pos h1, if_neg h2]
        obtain ⟨a, b, c, d, e⟩ := ih (i + 1) i t hl hi ht
        refine ⟨a, b, by omega, by omega, fun u hu => ?_⟩
        rcases List.mem_cons.1 hu with rfl | hu
        · omega
        · exact e u hu
    · by_cases h2 : v > g x t
      · rw [if_neg h1, if_pos h2]
        obtain ⟨a, b, c, d, e⟩ := ih (i + 1) f i hl hf hi
        refine ⟨a, b, by omega, by omega, fun u hu => ?_⟩
        rcases List.mem_cons.1 hu with rfl | hu
        · omega
        · exact e u hu
      · rw [if_neg h1, if_neg h2]
        obtain ⟨a, b, c, d, e⟩ := ih (i + 1) f t hl hf ht
        refine ⟨a, b, by omega, by omega, fun u hu => ?_⟩
        rcases List.mem_cons.1 hu with rfl | hu
        · omega
        · exact e u hu
theorem scan_first (x : List Int) (h : 0 < x.length) : scan x x 0 0 0 = scan x (x.drop 1) 1 0 0 := by
  cases x with
  | nil => simp at h
  | cons v l => simp [scan, g]
theorem sum_set (x : List Int) : ∀ (i : Nat) (v : Int), i < x.length → (x.set i v).sum = x.sum - g x i + v := by
  induction x with
  | nil => intro i v h; simp at h
  | cons a x ih =>
    intro i v h
    cases i with
    | zero => simp [g]; omega
    | succ i =>
      have := ih i v (by simpa using h)
      simp only [List.set_cons_succ, List.sum_cons, this, g, List.getD_cons_succ]
      omega
def nz : List Int → Nat
  | [] => 0
  | a :: x => (if a = 0 then 0 else 1) + nz x
theorem nz_set (x : List Int) : ∀ (i : Nat) (v : Int), i < x.length → nz (x.set i v) + (if g x i = 0 then 0 else 1) = nz x + (if v = 0 then 0 else 1) := by
  induction x with
  | nil => intro i v h; simp at h
  | cons a x ih =>
    intro i v h
    cases i with
    | zero => simp [g, nz]; omega
    | succ i =>
      have := ih i v (by simpa using h)
      simp only [List.set_cons_succ, nz, g, List.getD_cons_succ] at this ⊢
      omega
theorem nz_le (x : List Int) : nz x ≤ x.length := by
  induction x with
  | nil => simp [nz]
  | cons a x ih => simp only [nz, List.length_cons]; split <;> omega
theorem sum_pos (x : List Int) (h : ∀ v ∈ x, 0 < v) (hx : x ≠ []) : 0 < x.sum := by
  induction x with
  | nil => exact absurd rfl hx
  | cons a x ih =>
    rw [List.sum_cons]
    have ha := h a (by simp)
    by_cases hn : x = []
    · subst hn; simpa using ha
    · have := ih (fun v hv => h v (by simp [hv])) hn
      omega
theorem sum_neg (x : List Int) (h : ∀ v ∈ x, v < 0) (hx : x ≠ []) : x.sum < 0 := by
  induction x with
  | nil => exact absurd rfl hx
  | cons a x ih =>
    rw [List.sum_cons]
    have ha := h a (by simp)
    by_cases hn : x = []
    · subst hn; simpa using ha
    · have := ih (fun v hv => h v (by simp [hv])) hn
      omega
def good (x : List Int) : Prop := 1 ≤ x.length ∧ x.length ≤ 16 ∧ (∀ v ∈ x, -100000000 ≤ v ∧ v ≤ 100000000) ∧ x.sum = 0
def low (x : List Int) : Nat := (scan x x 0 0 0).1
def high (x : List Int) : Nat := (scan x x 0 0 0).2
def due (x : List Int) : Int := if g x (high x) < -(g x (low x)) then g x (high x) else -(g x (low x))
def pay (x : List Int) : List Int :=
  (x.set (low x) (g x (low x) + due x)).set (high x) (g (x.set (low x) (g x (low x) + due x)) (high x) - due x)
theorem pick {x : List Int} (h : good x) : low x < x.length ∧ high x < x.length ∧ g x (low x) ≤ 0 ∧ 0 ≤ g x (high x) ∧ (∀ v ∈ x, g x (low x) ≤ v ∧ v ≤ g x (high x)) ∧ -100000000 ≤ g x (low x) ∧ g x (high x) ≤ 100000000 := by
  obtain ⟨h1, h2, h3, h4⟩ := h
  obtain ⟨a, b, _, _, e⟩ := scan_spec x x 0 0 0 rfl (by omega) (by omega)
  change low x < x.length at a
  change high x < x.length at b
  change ∀ v ∈ x, g x (low x) ≤ v ∧ v ≤ g x (high x) at e
  have hx : x ≠ [] := by intro hx; subst hx; simp at h1
  have ml : g x (low x) ∈ x := by rw [g_lt x _ a]; exact List.getElem_mem a
  have mh : g x (high x) ∈ x := by rw [g_lt x _ b]; exact List.getElem_mem b
  refine ⟨a, b, ?_, ?_, e, (h3 _ ml).1, (h3 _ mh).2⟩
  · by_cases hn : g x (low x) ≤ 0
    · exact hn
    · have := sum_pos x (fun v hv => by have := (e v hv).1; omega) hx
      omega
  · by_cases hn : 0 ≤ g x (high x)
    · exact hn
    · have := sum_neg x (fun v hv => by have := (e v hv).2; omega) hx
      omega
theorem due_bd {x : List Int} (h : good x) : 0 ≤ due x ∧ due x ≤ -(g x (low x)) ∧ due x ≤ g x (high x) ∧ due x ≤ 100000000 := by
  obtain ⟨a, b, c, d, e, f1, f2⟩ := pick h
  unfold due
  split <;> omega
theorem g_set_ne (x : List Int) (i j : Nat) (v : Int) (h : i ≠ j) : g (x.set i v) j = g x j := by
  simp [g, List.getD_eq_getElem?_getD, List.getElem?_set_ne h]
theorem pay_spec {x : List Int} (h : good x) (hd : 0 < due x) : low x ≠ high x ∧ good (pay x) ∧ nz (pay x) < nz x := by
  obtain ⟨a, b, c, d, e, f1, f2⟩ := pick h
  obtain ⟨d0, d1, d2, d3⟩ := due_bd h
  obtain ⟨h1, h2, h3, h4⟩ := h
  have hne : low x ≠ high x := by intro hh; rw [hh] at d1; omega
  have hg : g (x.set (low x) (g x (low x) + due x)) (high x) = g x (high x) := g_set_ne x _ _ _ hne
  refine ⟨hne, ⟨by simp [pay]; omega, by simp [pay]; omega, ?_, ?_⟩, ?_⟩
  · intro v hv
    unfold pay at hv
    rw [hg] at hv
    rcases List.mem_or_eq_of_mem_set hv with hv | rfl
    · rcases List.mem_or_eq_of_mem_set hv with hv | rfl
      · exact h3 v hv
      · omega
    · omega
  · unfold pay
    rw [sum_set _ _ _ (by simpa using b), sum_set _ _ _ a, h4, hg]
    omega
  · unfold pay
    rw [hg]
    have e1 := nz_set (x.set (low x) (g x (low x) + due x)) (high x) (g x (high x) - due x) (by simpa using b)
    have e2 := nz_set x (low x) (g x (low x) + due x) a
    rw [hg] at e1
    have hl : ¬ g x (low x) = 0 := by omega
    have hh : ¬ g x (high x) = 0 := by omega
    rw [if_neg hh] at e1
    rw [if_neg hl] at e2
    have hz : g x (low x) + due x = 0 ∨ g x (high x) - due x = 0 := by
      unfold due; split <;> omega
    rcases hz with hz | hz
    · rw [if_pos hz] at e2
      have : (if g x (high x) - due x = 0 then (0 : Nat) else 1) ≤ 1 := by split <;> omega
      omega
    · rw [if_pos hz] at e1
      have : (if g x (low x) + due x = 0 then (0 : Nat) else 1) ≤ 1 := by split <;> omega
      omega
def settleF : Nat → List Int → List D
  | 0, _ => []
  | m + 1, x => if due x ≤ 0 then [] else ⟨(low x : Int), (high x : Int), due x⟩ :: settleF m (pay x)
theorem settleF_more (m : Nat) : ∀ x, good x → nz x ≤ m → ∀ j, settleF (m + 1 + j) x = settleF (m + 1) x := by
  induction m with
  | zero =>
    intro x h hz j
    have : ¬ 0 < due x := fun hd => by have := (pay_spec h hd).2.2; omega
    rw [show 0 + 1 + j = j + 1 by omega]
    simp only [settleF]
    rw [if_pos (by omega), if_pos (by omega)]
  | succ m ih =>
    intro x h hz j
    rw [show m + 1 + 1 + j = (m + 1 + j) + 1 by omega]
    simp only [settleF]
    by_cases hd : due x ≤ 0
    · rw [if_pos hd, if_pos hd]
    · rw [if_neg hd, if_neg hd]
      obtain ⟨_, hg, hn⟩ := pay_spec h (by omega)
      rw [show (if due (pay x) ≤ 0 then [] else ⟨(low (pay x) : Int), (high (pay x) : Int), due (pay x)⟩ :: settleF m (pay (pay x))) = settleF (m + 1) (pay x) from rfl]
      rw [ih (pay x) hg (by omega) j]
def settleL (x : List Int) : List D := settleF 17 x
theorem settle_eq {x : List Int} (h : good x) (m : Nat) (hm : nz x ≤ m) (hm2 : m ≤ 16) : settleF (m + 1) x = settleL x := by
  have := settleF_more m x h hm (16 - m)
  rw [show m + 1 + (16 - m) = 17 by omega] at this
  exact this.symm
theorem settle_step {x : List Int} (h : good x) : settleL x = if due x ≤ 0 then [] else ⟨(low x : Int), (high x : Int), due x⟩ :: settleL (pay x) := by
  by_cases hd : due x ≤ 0
  · unfold settleL; simp only [settleF]; rw [if_pos hd, if_pos hd]
  · rw [if_neg hd]
    obtain ⟨_, hg, hn⟩ := pay_spec h (by omega)
    have hz := nz_le x
    have h16 := h.2.1
    unfold settleL
    rw [settleF]
    rw [if_neg hd, settle_eq hg 15 (by omega) (by omega)]
    rfl
theorem good_of {x : List Int} (h : nets0 x = true) : good x := by
  simp only [nets0, Bool.and_eq_true, decide_eq_true_eq, List.all_eq_true, beq_iff_eq] at h
  exact ⟨h.1.1, h.1.2, fun v hv => of_decide_eq_true (h.2.1 v hv), h.2.2⟩
theorem scanS_ev (out : List D) (x : List Int) (R : List D) (h16 : x.length ≤ 16) (hend : ∀ f t : Nat, (f, t) = scan x (x.drop 1) 1 0 0 → Ev (fun k => spec_l02Settle.l1 k out x (f : Int) (t : Int) (x.length : Int)) R) (h : 1 ≤ x.length) :
    Ev (fun k => spec_l02Settle.l1 k out x 0 0 1) R := by
  have key : ∀ (d i f t : Nat), x.length - i = d → i ≤ x.length → f < x.length → t < x.length → scan x (x.drop i) i f t = scan x (x.drop 1) 1 0 0 → Ev (fun k => spec_l02Settle.l1 k out x (f : Int) (t : Int) (i : Int)) R := by
    intro d
    induction d with
    | zero =>
      intro i f t hd hi hf ht hs
      have : i = x.length := by omega
      subst this
      rw [List.drop_of_length_le (Nat.le_refl _)] at hs
      exact hend f t hs
    | succ d ih =>
      intro i f t hd hi hf ht hs
      have hlt : i < x.length := by omega
      have hg : rd x (i : Int) = x[i] := getD_lt x 0 i hlt
      rw [List.drop_eq_getElem_cons hlt] at hs
      simp only [scan] at hs
      have hstep : ∀ k, spec_l02Settle.l1 (k + 1) out x (f : Int) (t : Int) (i : Int) = spec_l02Settle.l1 k out x ((if x[i] < g x f then i else f : Nat) : Int) ((if x[i] > g x t then i else t : Nat) : Int) ((i + 1 : Nat) : Int) := by
        intro k
        simp only [spec_l02Settle.l1]
        rw [if_pos (by omega), if_pos (by omega), if_pos (by omega), if_pos (by omega), hg, rd_g, rd_g, wrap_up hlt (by omega)]
        rw [show ((i : Int) + 1) = ((i + 1 : Nat) : Int) by omega]
        by_cases h1 : x[i] < g x f
        · by_cases h2 : x[i] > g x t
          · rw [if_pos h1, if_pos (by omega), if_pos (by omega), if_pos h2, if_pos h1, if_pos h2]
          · rw [if_pos h1, if_pos (by omega), if_pos (by omega), if_neg h2, if_pos h1, if_neg h2]
        · by_cases h2 : x[i] > g x t
          · rw [if_neg h1, if_pos (by omega), if_pos (by omega), if_pos h2, if_neg h1, if_pos h2]
          · rw [if_neg h1, if_pos (by omega), if_pos (by omega), if_neg h2, if_neg h1, if_neg h2]
      refine Ev.step hstep (ih (i + 1) _ _ (by omega) (by omega) (by split <;> omega) (by split <;> omega) hs)
  exact key (x.length - 1) 1 0 0 rfl h (by omega) (by omega) rfl
theorem scanI_ev (out : List D) (x : List Int) (R : List D) (h16 : x.length ≤ 16) (hend : ∀ f t : Nat, (f, t) = scan x x 0 0 0 → Ev (fun k => impl_settle.l1 k x out (f : Int) (t : Int) x (x.length : Int) (x.length : Int)) R) (h : 1 ≤ x.length) :
    Ev (fun k => impl_settle.l1 k x out 0 0 x (x.length : Int) 0) R := by
  have key : ∀ (d i f t : Nat), x.length - i = d → i ≤ x.length → f < x.length → t < x.length → scan x (x.drop i) i f t = scan x x 0 0 0 → Ev (fun k => impl_settle.l1 k x out (f : Int) (t : Int) x (x.length : Int) (i : Int)) R := by
    intro d
    induction d with
    | zero =>
      intro i f t hd hi hf ht hs
      have : i = x.length := by omega
      subst this
      rw [List.drop_of_length_le (Nat.le_refl _)] at hs
      exact hend f t hs
    | succ d ih =>
      intro i f t hd hi hf ht hs
      have hlt : i < x.length := by omega
      have hg : rd x (i : Int) = x[i] := getD_lt x 0 i hlt
      rw [List.drop_eq_getElem_cons hlt] at hs
      simp only [scan] at hs
      have hstep : ∀ k, impl_settle.l1 (k + 1) x out (f : Int) (t : Int) x (x.length : Int) (i : Int) = impl_settle.l1 k x out ((if x[i] < g x f then i else f : Nat) : Int) ((if x[i] > g x t then i else t : Nat) : Int) x (x.length : Int) ((i + 1 : Nat) : Int) := by
        intro k
        simp only [impl_settle.l1]
        rw [if_pos (by omega), if_pos (by omega), if_pos (by omega), if_pos (by omega), if_pos (by omega), hg, rd_g, rd_g, wrap_up hlt (by omega)]
        rw [show ((i : Int) + 1) = ((i + 1 : Nat) : Int) by omega]
        by_cases h1 : x[i] < g x f
        · by_cases h2 : x[i] > g x t
          · rw [if_pos h1, if_pos (by omega), if_pos (by omega), if_pos h2, if_pos h1, if_pos h2]
          · rw [if_pos h1, if_pos (by omega), if_pos (by omega), if_neg h2, if_pos h1, if_neg h2]
        · by_cases h2 : x[i] > g x t
          · rw [if_neg h1, if_pos (by omega), if_pos (by omega), if_pos h2, if_neg h1, if_pos h2]
          · rw [if_neg h1, if_pos (by omega), if_pos (by omega), if_neg h2, if_neg h1, if_neg h2]
      refine Ev.step hstep (ih (i + 1) _ _ (by omega) (by omega) (by split <;> omega) (by split <;> omega) hs)
  exact key x.length 0 0 0 rfl (by omega) (by omega) (by omega) rfl
theorem settleS_ev : ∀ (m : Nat) (x : List Int) (out : List D), good x → nz x ≤ m → out.length + m ≤ 1000000 → Ev (fun k => spec_l02Settle.l0 k out x) (out ++ settleL x) := by
  intro m
  induction m with
  | zero => 
    intro x out h hz ho
    have hd : ¬ 0 < due x := fun hd => by have := (pay_spec h hd).2.2; omega
    obtain ⟨a, b, c, d, e, f1, f2⟩ := pick h
    obtain ⟨d0, d1, d2, d3⟩ := due_bd h
    refine Ev.step (f := fun k => spec_l02Settle.l1 k out x 0 0 1) (fun k => by simp only [spec_l02Settle.l0]) (scanS_ev out x _ h.2.1 (fun f t hft => ?_) h.1)
    rw [← scan_first x (by have := h.1; omega)] at hft
    obtain rfl : f = low x := congrArg Prod.fst hft
    obtain rfl : t = high x := congrArg Prod.snd hft
    refine Ev.step (f := fun _ => some (out ++ settleL x)) (fun k => ?_) (Ev.now _)
    simp only [spec_l02Settle.l1]
    rw [if_neg (by omega), if_pos (by omega), if_pos (by omega), if_pos (by omega), if_pos (by omega), rd_g, rd_g, wrap_id (x := -g x (low x)) (by omega) (by omega)]
    have hmin : spec_l00Min.f (-g x (low x)) (g x (high x)) = some (due x) := by
      unfold spec_l00Min.f due
      by_cases h1 : -g x (low x) < g x (high x)
      · rw [if_pos h1, if_neg (by omega)]
      · rw [if_neg h1]
        by_cases h2 : g x (high x) < -g x (low x)
        · rw [if_pos h2]
        · rw [if_neg h2]; congr 1; omega
    rw [hmin]
    simp only [Option.bind_some]
    rw [if_pos (by omega), settle_step h, if_pos (by omega), List.append_nil]
  | succ m ih =>
    intro x out h hz ho
    obtain ⟨a, b, c, d, e, f1, f2⟩ := pick h
    obtain ⟨d0, d1, d2, d3⟩ := due_bd h
    refine Ev.step (f := fun k => spec_l02Settle.l1 k out x 0 0 1) (fun k => by simp only [spec_l02Settle.l0]) (scanS_ev out x _ h.2.1 (fun f t hft => ?_) h.1)
    rw [← scan_first x (by have := h.1; omega)] at hft
    obtain rfl : f = low x := congrArg Prod.fst hft
    obtain rfl : t = high x := congrArg Prod.snd hft
    have hmin : spec_l00Min.f (-g x (low x)) (g x (high x)) = some (due x) := by
      unfold spec_l00Min.f due
      by_cases h1 : -g x (low x) < g x (high x)
      · rw [if_pos h1, if_neg (by omega)]
      · rw [if_neg h1]
        by_cases h2 : g x (high x) < -g x (low x)
        · rw [if_pos h2]
        · rw [if_neg h2]; congr 1; omega
    have h0 : ∀ k, spec_l02Settle.l1 (k + 1) out x ((low x : Nat) : Int) ((high x : Nat) : Int) (x.length : Int) = if due x = 0 then some out else spec_l02Settle.l0 k (out ++ [⟨(low x : Int), (high x : Int), due x⟩]) (pay x) := by
      intro k
      simp only [spec_l02Settle.l1]
      rw [if_neg (by omega), if_pos (by omega), if_pos (by omega), if_pos (by omega), if_pos (by omega), rd_g, rd_g, wrap_id (x := -g x (low x)) (by omega) (by omega), hmin]
      simp only [Option.bind_some]
      by_cases hd : due x = 0
      · rw [if_pos hd, if_pos hd]
      · rw [if_neg hd, if_neg hd, if_pos (by omega), wrap_id (x := g x (low x) + due x) (by omega) (by omega)]
        obtain ⟨hne, _, _⟩ := pay_spec h (by omega)
        rw [rd_g, Int.toNat_natCast, Int.toNat_natCast, g_set_ne x _ _ _ hne, wrap_id (x := g x (high x) - due x) (by omega) (by omega)]
        unfold pay
        rw [g_set_ne x _ _ _ hne]
    refine Ev.step h0 ?_
    by_cases hd : due x = 0
    · refine ev_pos hd ?_
      rw [settle_step h, if_pos (by omega), List.append_nil]; exact Ev.now _
    · refine ev_neg hd ?_
      obtain ⟨hne, hg, hn⟩ := pay_spec h (by omega)
      refine ev_eq (ih (pay x) (out ++ [⟨(low x : Int), (high x : Int), due x⟩]) hg (by omega) (by simp; omega)) ?_
      rw [settle_step h, if_neg (by omega)]; simp
theorem settleI_ev : ∀ (m : Nat) (x : List Int) (out : List D), good x → nz x ≤ m → out.length + m ≤ 1000000 → Ev (fun k => impl_settle.l0 k x out) (out ++ settleL x) := by
  intro m
  have hmn : ∀ x : List Int, mn (-g x (low x)) (g x (high x)) = due x := by
    intro x; unfold mn due; rfl
  have h0 : ∀ (x : List Int) (out : List D), good x → out.length ≤ 1000000 → ∀ k, impl_settle.l1 (k + 1) x out ((low x : Nat) : Int) ((high x : Nat) : Int) x (x.length : Int) (x.length : Int) = if due x ≤ 0 then some out else impl_settle.l0 k (pay x) (out ++ [⟨(low x : Int), (high x : Int), due x⟩]) := by
    intro x out h ho k
    obtain ⟨a, b, c, d, e, f1, f2⟩ := pick h
    obtain ⟨d0, d1, d2, d3⟩ := due_bd h
    simp only [impl_settle.l1]
    rw [if_neg (by omega), if_pos (by omega), if_pos (by omega), if_pos (by omega), if_pos (by omega), rd_g, rd_g, wrap_id (x := -g x (low x)) (by omega) (by omega), hmn]
    by_cases hd : due x ≤ 0
    · rw [if_pos hd, if_pos hd]
    · rw [if_neg hd, if_neg hd]
      simp only [Option.bind_some]
      rw [if_pos (by omega), wrap_id (x := g x (low x) + due x) (by omega) (by omega)]
      obtain ⟨hne, _, _⟩ := pay_spec h (by omega)
      rw [rd_g, Int.toNat_natCast, Int.toNat_natCast, g_set_ne x _ _ _ hne, wrap_id (x := g x (high x) - due x) (by omega) (by omega)]
      unfold pay
      rw [g_set_ne x _ _ _ hne]
  induction m with
  | zero =>
    intro x out h hz ho
    have hd : ¬ 0 < due x := fun hd => by have := (pay_spec h hd).2.2; omega
    refine Ev.step (f := fun k => impl_settle.l1 k x out 0 0 x (x.length : Int) 0) (fun k => by simp only [impl_settle.l0]) (scanI_ev out x _ h.2.1 (fun f t hft => ?_) h.1)
    obtain rfl : f = low x := congrArg Prod.fst hft
    obtain rfl : t = high x := congrArg Prod.snd hft
    refine Ev.step (h0 x out h (by omega)) (ev_pos (by omega) ?_)
    rw [settle_step h, if_pos (by omega), List.append_nil]; exact Ev.now _
  | succ m ih =>
    intro x out h hz ho
    refine Ev.step (f := fun k => impl_settle.l1 k x out 0 0 x (x.length : Int) 0) (fun k => by simp only [impl_settle.l0]) (scanI_ev out x _ h.2.1 (fun f t hft => ?_) h.1)
    obtain rfl : f = low x := congrArg Prod.fst hft
    obtain rfl : t = high x := congrArg Prod.snd hft
    refine Ev.step (h0 x out h (by omega)) ?_
    by_cases hd : due x ≤ 0
    · refine ev_pos hd ?_
      rw [settle_step h, if_pos hd, List.append_nil]; exact Ev.now _
    · refine ev_neg hd ?_
      obtain ⟨hne, hg, hn⟩ := pay_spec h (by omega)
      refine ev_eq (ih (pay x) (out ++ [⟨(low x : Int), (high x : Int), due x⟩]) hg (by omega) (by simp; omega)) ?_
      rw [settle_step h, if_neg hd]; simp
theorem settle_len {x : List Int} (h : good x) : (settleL x).length ≤ 17 := by
  have : ∀ m (x : List Int), (settleF m x).length ≤ m := by
    intro m
    induction m with
    | zero => intro x; simp [settleF]
    | succ m ih => intro x; simp only [settleF]; split; simp; simpa using ih (pay x)
  exact this 17 x
theorem l02Settle_ev (x : List Int) (out : List D) (h : good x) (ho : out.length ≤ 900000) : Ev (fun k => spec_l02Settle.f k x out) (out ++ settleL x) := by
  unfold spec_l02Settle.f
  have h16 := h.2.1
  refine ev_bind0 rfl (ev_pos (by simp; omega) ?_)
  have hz := nz_le x
  rw [List.nil_append]
  exact settleS_ev 16 x out h (by omega) (by omega)
theorem settleF_ev (x : List Int) (h : good x) : Ev (fun k => impl_settle.f k x) (settleL x) := by
  unfold impl_settle.f
  have h16 := h.2.1
  have hc : slices_Clone_int64_int64.f x = some x := by
    unfold slices_Clone_int64_int64.f
    simp only [Option.bind_some]
    rw [if_pos (by simp; omega)]
    simp
  have hz := nz_le x
  refine ev_bind0 hc (ev_eq (settleI_ev 16 x [] h (by omega) (by simp)) ?_)
  simp
end Go.Proofs.YtcghnnhhgngddaaDoor.PuSettleSettled
-- a text of this session, cut down for this claim
namespace Go.Proofs.YtcghnnhhgngddaaDoor.PuOpnSettled
open Go.RowKit Go.Proofs.YtcghnnhhgngddaaDoor.MSettled Go.Proofs.YtcghnnhhgngddaaDoorW.PrintWords Go.Proofs.YtcghnnhhgngddaaDoorW.PrintLast Go.Proofs.YtcghnnhhgngddaaDoor.Evs Go.Proofs.YtcghnnhhgngddaaDoor.PuSubSettled
open Go.Proofs.YtcghnnhhgngddaaDoor.PuSettleSettled (g)
set_option linter.unusedVariables false
set_option linter.unusedSimpArgs false
theorem range_pw (n : Nat) : (List.range n).Pairwise (· < ·) := List.pairwise_lt_range
theorem mem_pw (n s : Nat) : (mem n s).Pairwise (· < ·) := (range_pw n).filter _
theorem mem_mem (n s k : Nat) : k ∈ mem n s ↔ k < n ∧ s.testBit k = true := by simp [mem]
def opn (x : List Int) : List Nat := (List.range x.length).filter fun i => decide (g x i ≠ 0)
def vals (x : List Int) : List Int := (opn x).map (g x)
theorem opn_pw (x : List Int) : (opn x).Pairwise (· < ·) := (range_pw _).filter _
theorem opn_mem (x : List Int) (k : Nat) : k ∈ opn x ↔ k < x.length ∧ g x k ≠ 0 := by simp [opn]
theorem opn_nodup (x : List Int) : (opn x).Nodup := (opn_pw x).imp (fun h => by omega)
def at_ (x : List Int) (k : Nat) : Nat := (opn x).getD k 0
theorem at_get (x : List Int) (k : Nat) (h : k < (opn x).length) : at_ x k = (opn x)[k] := by simp [at_, List.getD_eq_getElem?_getD, h]
theorem at_mem (x : List Int) (k : Nat) (h : k < (opn x).length) : at_ x k ∈ opn x := by rw [at_get x k h]; exact List.getElem_mem h
theorem at_lt (x : List Int) (i j : Nat) (hj : j < (opn x).length) (h : i < j) : at_ x i < at_ x j := by
  rw [at_get x i (by omega), at_get x j hj]
  exact List.pairwise_iff_getElem.1 (opn_pw x) i j (by omega) hj h
def ppl (x : List Int) (s : Nat) : List Nat := (mem (opn x).length s).map (at_ x)
theorem ppl_pw (x : List Int) (s : Nat) : (ppl x s).Pairwise (· < ·) := by
  unfold ppl
  rw [List.pairwise_map]
  refine (mem_pw _ s).imp_of_mem ?_
  intro a b ha hb hab
  exact at_lt x a b ((mem_mem _ _ _).1 hb).1 hab
theorem ppl_opn (x : List Int) (s : Nat) {j : Nat} (h : j ∈ ppl x s) : j < x.length ∧ g x j ≠ 0 := by
  obtain ⟨k, hk, rfl⟩ := List.mem_map.1 h
  exact (opn_mem x _).1 (at_mem x k ((mem_mem _ _ _).1 hk).1)
theorem ppl_at (x : List Int) (s k : Nat) (hk : k < (opn x).length) : at_ x k ∈ ppl x s ↔ s.testBit k = true := by
  constructor
  · intro h
    obtain ⟨j, hj, e⟩ := List.mem_map.1 h
    have hj := (mem_mem _ _ _).1 hj
    have : j = k := by
      rcases Nat.lt_trichotomy j k with h | h | h
      · have := at_lt x j k hk h; omega
      · exact h
      · have := at_lt x k j hj.1 h; omega
    rw [← this]; exact hj.2
  · intro h
    exact List.mem_map.2 ⟨k, (mem_mem _ _ _).2 ⟨hk, h⟩, rfl⟩
theorem opn_at (x : List Int) {j : Nat} (h : j ∈ opn x) : ∃ k, k < (opn x).length ∧ at_ x k = j := by
  obtain ⟨k, hk, e⟩ := List.mem_iff_getElem.1 h
  exact ⟨k, hk, by rw [at_get x k hk]; exact e⟩
end Go.Proofs.YtcghnnhhgngddaaDoor.PuOpnSettled
-- a text of this session, cut down for this claim
namespace Go.Proofs.YtcghnnhhgngddaaDoor.PuPaysSettled
open Go.Proofs.YtcghnnhhgngddaaDoor.PuSubSettled
set_option linter.unusedVariables false
def dl (p : Nat × Nat × Int) (k : Nat) : Int := (if k = p.1 then p.2.2 else 0) - (if k = p.2.1 then p.2.2 else 0)
def tot (ps : List (Nat × Nat × Int)) (k : Nat) : Int := (ps.map fun p => dl p k).sum
theorem tot_cons (p : Nat × Nat × Int) (ps : List (Nat × Nat × Int)) (k : Nat) : tot (p :: ps) k = dl p k + tot ps k := by simp [tot]
theorem tot_append (ps qs : List (Nat × Nat × Int)) (k : Nat) : tot (ps ++ qs) k = tot ps k + tot qs k := by simp [tot]
def cls (S : List Nat) (f : Nat → Nat) (v : Nat → Int) (d : Nat) : Int := (S.map fun x => if f x = d then v x else 0).sum
theorem cls_cons (x : Nat) (S : List Nat) (f : Nat → Nat) (v : Nat → Int) (d : Nat) : cls (x :: S) f v d = (if f x = d then v x else 0) + cls S f v d := by simp [cls]
theorem cls_add (f : Nat → Nat) (v w : Nat → Int) (d : Nat) : ∀ S : List Nat, cls S f (fun k => v k + w k) d = cls S f v d + cls S f w d
  | [] => by simp [cls]
  | x :: S => by
    rw [cls_cons, cls_cons, cls_cons, cls_add f v w d S]
    split <;> omega
theorem cls_sub (f : Nat → Nat) (v w : Nat → Int) (d : Nat) : ∀ S : List Nat, cls S f (fun k => v k - w k) d = cls S f v d - cls S f w d
  | [] => by simp [cls]
  | x :: S => by
    rw [cls_cons, cls_cons, cls_cons, cls_sub f v w d S]
    split <;> omega
theorem cls_out (f : Nat → Nat) (i : Nat) (a : Int) (d : Nat) : ∀ S : List Nat, i ∉ S → cls S f (fun k => if k = i then a else 0) d = 0
  | [], _ => by simp [cls]
  | x :: S, h => by
    have hx : x ≠ i := fun e => h (by rw [e]; exact List.mem_cons_self)
    rw [cls_cons, cls_out f i a d S (fun e => h (List.mem_cons_of_mem _ e)), if_neg hx]
    split <;> rfl
theorem cls_one (f : Nat → Nat) (i : Nat) (a : Int) (d : Nat) : ∀ S : List Nat, S.Nodup → i ∈ S → cls S f (fun k => if k = i then a else 0) d = if f i = d then a else 0
  | [], _, h => by cases h
  | x :: S, hn, h => by
    have hn := List.nodup_cons.1 hn
    rw [cls_cons]
    by_cases e : x = i
    · subst e
      rw [cls_out f x a d S hn.1, if_pos rfl]
      omega
    · rw [if_neg e, cls_one f i a d S hn.2 ((List.mem_cons.1 h).resolve_left (fun z => e z.symm))]
      by_cases e2 : f x = d <;> simp [e2]
theorem cls_dl (f : Nat → Nat) (p : Nat × Nat × Int) (d : Nat) (S : List Nat) (hn : S.Nodup) (h1 : p.1 ∈ S) (h2 : p.2.1 ∈ S) : cls S f (dl p) d = (if f p.1 = d then p.2.2 else 0) - (if f p.2.1 = d then p.2.2 else 0) := by
  have e : dl p = fun k => (fun k => if k = p.1 then p.2.2 else 0) k - (fun k => if k = p.2.1 then p.2.2 else 0) k := rfl
  rw [e, cls_sub, cls_one f _ _ d S hn h1, cls_one f _ _ d S hn h2]
theorem cls_congr (f f2 : Nat → Nat) (v : Nat → Int) (d d2 : Nat) : ∀ S : List Nat, (∀ x ∈ S, f x = d ↔ f2 x = d2) → cls S f v d = cls S f2 v d2
  | [], _ => by simp [cls]
  | x :: S, h => by
    rw [cls_cons, cls_cons, cls_congr f f2 v d d2 S (fun y hy => h y (List.mem_cons_of_mem _ hy))]
    have hx := h x List.mem_cons_self
    by_cases e : f x = d
    · rw [if_pos e, if_pos (hx.1 e)]
    · rw [if_neg e, if_neg (fun z => e (hx.2 z))]
theorem cls_two (f f2 : Nat → Nat) (v : Nat → Int) (d a b : Nat) (hab : a ≠ b) : ∀ S : List Nat, (∀ x ∈ S, f2 x = d ↔ (f x = a ∨ f x = b)) → cls S f2 v d = cls S f v a + cls S f v b
  | [], _ => by simp [cls]
  | x :: S, h => by
    rw [cls_cons, cls_cons, cls_cons, cls_two f f2 v d a b hab S (fun y hy => h y (List.mem_cons_of_mem _ hy))]
    have hx := h x List.mem_cons_self
    by_cases e : f x = a
    · rw [if_pos (hx.2 (Or.inl e)), if_pos e, if_neg (fun z => hab (e.symm.trans z))]; omega
    · by_cases e2 : f x = b
      · rw [if_pos (hx.2 (Or.inr e2)), if_neg e, if_pos e2]; omega
      · rw [if_neg (fun z => (hx.1 z).elim e e2), if_neg e, if_neg e2]; omega
theorem classes (S : List Nat) (hn : S.Nodup) : ∀ (ps : List (Nat × Nat × Int)) (v : Nat → Int), (∀ k ∈ S, v k + tot ps k = 0) → (∀ p ∈ ps, p.1 ∈ S ∧ p.2.1 ∈ S) →
    ∃ (f : Nat → Nat) (D : List Nat), D.Nodup ∧ (∀ d ∈ D, ∃ x ∈ S, f x = d) ∧ (∀ d, cls S f v d = 0) ∧ S.length ≤ D.length + ps.length
  | [], v, h, _ => by
    refine ⟨id, S, hn, fun d hd => ⟨d, hd, rfl⟩, fun d => ?_, by simp⟩
    have : ∀ T : List Nat, (∀ k ∈ T, v k + tot [] k = 0) → cls T id v d = 0 := by
      intro T
      induction T with
      | nil => intro _; rfl
      | cons x T ih =>
        intro hT
        have hx := hT x List.mem_cons_self
        have e0 : tot [] x = 0 := rfl
        rw [e0] at hx
        rw [cls_cons, ih (fun k hk => hT k (List.mem_cons_of_mem _ hk))]
        split <;> omega
    exact this S h
  | p :: ps, v, h, hS => by
    have hp := hS p List.mem_cons_self
    obtain ⟨f, D, d1, d2, d3, d4⟩ := classes S hn ps (fun k => v k + dl p k) (fun k hk => by
      have := h k hk
      rw [tot_cons] at this
      omega) (fun q hq => hS q (List.mem_cons_of_mem _ hq))
    have hv : ∀ d, cls S f v d + ((if f p.1 = d then p.2.2 else 0) - (if f p.2.1 = d then p.2.2 else 0)) = 0 := fun d => by
      have := d3 d
      rw [cls_add, cls_dl f p d S hn hp.1 hp.2] at this
      exact this
    by_cases e : f p.1 = f p.2.1
    · refine ⟨f, D, d1, d2, fun d => ?_, by rw [List.length_cons]; omega⟩
      have := hv d
      rw [e] at this
      omega
    · refine ⟨fun x => if f x = f p.2.1 then f p.1 else f x, D.erase (f p.2.1), d1.erase _, fun d hd => ?_, fun d => ?_, ?_⟩
      · have hd2 := (List.Nodup.mem_erase_iff d1).1 hd
        obtain ⟨x, hx, hf⟩ := d2 d hd2.2
        exact ⟨x, hx, by dsimp only; rw [if_neg (by rw [hf]; exact hd2.1)]; exact hf⟩
      · by_cases e1 : d = f p.1
        · have a := hv (f p.1)
          have b := hv (f p.2.1)
          rw [if_pos rfl, if_neg (fun z => e z.symm)] at a
          rw [if_neg e, if_pos rfl] at b
          rw [e1, cls_two f _ v (f p.1) (f p.1) (f p.2.1) e S (fun x _ => ?_)]
          · omega
          · by_cases ex : f x = f p.2.1
            · rw [if_pos ex]; exact ⟨fun _ => Or.inr ex, fun _ => rfl⟩
            · rw [if_neg ex]; exact ⟨fun z => Or.inl z, fun z => z.resolve_right ex⟩
        · by_cases e2 : d = f p.2.1
          · have : ∀ T : List Nat, cls T (fun x => if f x = f p.2.1 then f p.1 else f x) v d = 0 := by
              intro T
              induction T with
              | nil => rfl
              | cons x T ih =>
                rw [cls_cons, ih, if_neg]
                · rfl
                · rw [e2]
                  by_cases ex : f x = f p.2.1
                  · rw [if_pos ex]; exact e
                  · rw [if_neg ex]; exact ex
            exact this S
          · have a := hv d
            rw [if_neg (fun z => e1 z.symm), if_neg (fun z => e2 z.symm)] at a
            rw [cls_congr _ f v d d S (fun x _ => ?_)]
            · omega
            · by_cases ex : f x = f p.2.1
              · rw [if_pos ex]; exact ⟨fun z => absurd z.symm e1, fun z => absurd (z.symm.trans ex) e2⟩
              · rw [if_neg ex]
      · have := List.length_erase (a := f p.2.1) (l := D)
        rw [List.length_cons]
        split at this <;> omega
def mk (φ : Nat → Bool) : List Nat → Nat
  | [] => 0
  | x :: l => (if φ x = true then 1 else 0) + 2 * mk φ l
theorem mk_Sb (φ ψ : Nat → Bool) : ∀ l : List Nat, (∀ x, φ x = true → ψ x = true) → Sb (mk φ l) (mk ψ l)
  | [], _ => Sb_refl _
  | x :: l, h => by
    have ih := mk_Sb φ ψ l h
    rw [Sb_iff]
    simp only [mk]
    by_cases h1 : φ x = true
    · rw [if_pos h1, if_pos (h x h1), show (1 + 2 * mk φ l) / 2 = mk φ l by omega, show (1 + 2 * mk ψ l) / 2 = mk ψ l by omega]
      exact ⟨by omega, ih⟩
    · rw [if_neg h1, show (0 + 2 * mk φ l) / 2 = mk φ l by omega, show ((if ψ x = true then 1 else 0) + 2 * mk ψ l) / 2 = mk ψ l by split <;> omega]
      exact ⟨by omega, ih⟩
theorem mk_add (φ ψ χ : Nat → Bool) : ∀ l : List Nat, (∀ x, ψ x = (φ x || χ x)) → (∀ x, φ x = true → χ x = false) → mk ψ l = mk φ l + mk χ l
  | [], _, _ => rfl
  | x :: l, h, h2 => by
    have ih := mk_add φ ψ χ l h h2
    have hx := h x
    have hx2 := h2 x
    simp only [mk]
    cases e : φ x <;> cases e2 : χ x <;> rw [e, e2] at hx <;> rw [hx, ih] <;> first | (simp [e, e2] at hx2) | (simp; omega) | skip
    all_goals simp
    all_goals omega
theorem mk_sm (φ : Nat → Bool) (v : Nat → Int) : ∀ l : List Nat, sm (l.map v) (mk φ l) = (l.map fun x => if φ x = true then v x else 0).sum
  | [] => rfl
  | x :: l => by
    have ih := mk_sm φ v l
    simp only [List.map_cons, sm, mk, List.sum_cons]
    rw [show ((if φ x = true then 1 else 0) + 2 * mk φ l) / 2 = mk φ l by split <;> omega, ih]
    by_cases h : φ x = true
    · rw [if_pos h, if_pos h, if_pos (by omega)]
    · rw [if_neg h, if_neg h, if_neg (by omega)]
theorem mk_pos (φ : Nat → Bool) : ∀ (l : List Nat) (x : Nat), x ∈ l → φ x = true → 0 < mk φ l
  | y :: l, x, h, hx => by
    simp only [mk]
    rcases List.mem_cons.1 h with e | e
    · subst e; rw [if_pos hx]; omega
    · have := mk_pos φ l x e hx; omega
theorem mk_all : ∀ l : List Nat, mk (fun _ => true) l + 1 = 2 ^ l.length
  | [] => rfl
  | x :: l => by
    have := mk_all l
    rw [List.length_cons, Nat.pow_succ]
    simp only [mk, if_true]
    omega
theorem has_classes (S : List Nat) (f : Nat → Nat) (v : Nat → Int) (h : ∀ d, cls S f v d = 0) : ∀ D : List Nat, D.Nodup → (∀ d ∈ D, ∃ x ∈ S, f x = d) →
    sm (S.map v) (mk (fun x => decide (f x ∈ D)) S) = 0 ∧ (D.length : Int) ≤ G (S.map v) (mk (fun x => decide (f x ∈ D)) S)
  | [], _, _ => by
    have e : mk (fun x => decide (f x ∈ ([] : List Nat))) S = 0 := by
      have : ∀ T : List Nat, mk (fun x => decide (f x ∈ ([] : List Nat))) T = 0 := by
        intro T
        induction T with
        | nil => rfl
        | cons x T ih => simp only [mk, ih]; simp
      exact this S
    rw [e]
    exact ⟨sm_zero _, by simp [G_zero]⟩
  | d :: D, hn, hx => by
    have hn := List.nodup_cons.1 hn
    obtain ⟨z, ih⟩ := has_classes S f v h D hn.2 (fun d hd => hx d (List.mem_cons_of_mem _ hd))
    have ez : sm (S.map v) (mk (fun x => decide (f x = d)) S) = 0 := by
      rw [mk_sm]
      have := h d
      unfold cls at this
      simpa using this
    obtain ⟨x, hxS, hxd⟩ := hx d List.mem_cons_self
    have hpos : 0 < mk (fun x => decide (f x = d)) S := mk_pos _ S x hxS (by simp [hxd])
    have eadd := mk_add (fun x => decide (f x = d)) (fun x => decide (f x ∈ d :: D)) (fun x => decide (f x ∈ D)) S (fun x => by simp) (fun x hx => by
      have := of_decide_eq_true hx
      rw [this]; exact decide_eq_false hn.1)
    have hsb := mk_Sb (fun x => decide (f x = d)) (fun x => decide (f x ∈ d :: D)) S (fun x hx => by
      have := of_decide_eq_true hx
      simp [this])
    have hs0 : sm (S.map v) (mk (fun x => decide (f x ∈ d :: D)) S) = 0 := by
      have := sm_sub (S.map v) _ _ hsb
      rw [eadd, show mk (fun x => decide (f x = d)) S + mk (fun x => decide (f x ∈ D)) S - mk (fun x => decide (f x = d)) S = mk (fun x => decide (f x ∈ D)) S by omega, z, ez] at this
      rw [eadd]; omega
    refine ⟨hs0, ?_⟩
    rw [List.length_cons]
    have g1 := G_pos (S.map v) (by omega : mk (fun x => decide (f x = d)) S ≠ 0) ez
    by_cases e0 : mk (fun x => decide (f x ∈ D)) S = 0
    · rw [e0] at ih
      rw [G_zero] at ih
      have e3 : mk (fun x => decide (f x ∈ d :: D)) S = mk (fun x => decide (f x = d)) S := by omega
      rw [e3]
      omega
    · have a := G_add (S.map v) hs0 hsb hpos (by omega) ez
      rw [eadd, show mk (fun x => decide (f x = d)) S + mk (fun x => decide (f x ∈ D)) S - mk (fun x => decide (f x = d)) S = mk (fun x => decide (f x ∈ D)) S by omega] at a
      rw [eadd]
      omega
theorem least (S : List Nat) (hn : S.Nodup) (v : Nat → Int) (ps : List (Nat × Nat × Int)) (h : ∀ k ∈ S, v k + tot ps k = 0) (hS : ∀ p ∈ ps, p.1 ∈ S ∧ p.2.1 ∈ S) (h0 : (S.map v).sum = 0) :
    (S.length : Int) ≤ G (S.map v) (2 ^ S.length - 1) + ps.length := by
  obtain ⟨f, D, d1, d2, d3, d4⟩ := classes S hn ps v h hS
  obtain ⟨z, g⟩ := has_classes S f v d3 D d1 d2
  have eall := mk_all S
  have esum : sm (S.map v) (2 ^ S.length - 1) = 0 := by
    rw [show 2 ^ S.length - 1 = mk (fun _ => true) S by omega, mk_sm]
    simpa using h0
  have hsb := mk_Sb (fun x => decide (f x ∈ D)) (fun _ => true) S (fun _ _ => rfl)
  rw [show mk (fun _ => true) S = 2 ^ S.length - 1 by omega] at hsb
  have hle := Sb_le hsb
  have key : G (S.map v) (mk (fun x => decide (f x ∈ D)) S) ≤ G (S.map v) (2 ^ S.length - 1) := by
    by_cases e : mk (fun x => decide (f x ∈ D)) S = 2 ^ S.length - 1
    · rw [e]; exact Int.le_refl _
    · have hz2 := sm_sub (S.map v) _ _ hsb
      rw [esum, z] at hz2
      have g2 := G_pos (S.map v) (by omega : 2 ^ S.length - 1 - mk (fun x => decide (f x ∈ D)) S ≠ 0) (by omega)
      by_cases e2 : mk (fun x => decide (f x ∈ D)) S = 0
      · rw [e2] at g2 ⊢
        rw [G_zero]
        rw [Nat.sub_zero] at g2
        omega
      · have a := G_add (S.map v) esum hsb (by omega) (by omega) z
        omega
  omega
end Go.Proofs.YtcghnnhhgngddaaDoor.PuPaysSettled
-- a text of this session, cut down for this claim
namespace Go.Proofs.YtcghnnhhgngddaaDoor.PuSetBSettled
open Go.RowKit Go.Proofs.YtcghnnhhgngddaaDoor.MSettled Go.Proofs.YtcghnnhhgngddaaDoorW.PrintWords Go.Proofs.YtcghnnhhgngddaaDoorW.PrintLast Go.Proofs.YtcghnnhhgngddaaDoor.Evs Go.Proofs.YtcghnnhhgngddaaDoor.PuDebtSettled Go.Proofs.YtcghnnhhgngddaaDoor.PuZeroSettled Go.Proofs.YtcghnnhhgngddaaDoor.PuSettleSettled Go.Proofs.YtcghnnhhgngddaaDoor.PuSubSettled Go.Proofs.YtcghnnhhgngddaaDoor.PuPaysSettled
set_option linter.unusedVariables false
set_option linter.unusedSimpArgs false
def toP (d : D) : Nat × Nat × Int := (d.f0.toNat, d.f1.toNat, d.f2)
theorem g_set_eq (x : List Int) (i : Nat) (v : Int) (h : i < x.length) : g (x.set i v) i = v := by
  simp [g, List.getD_eq_getElem?_getD, h]
theorem pay_g {x : List Int} (h : good x) (hd : 0 < PuSettleSettled.due x) (k : Nat) : g (pay x) k = g x k + dl (low x, high x, PuSettleSettled.due x) k := by
  obtain ⟨a, b, c, d, e, f1, f2⟩ := pick h
  have hne := (pay_spec h hd).1
  unfold pay dl
  dsimp only
  by_cases e1 : k = high x
  · rw [if_neg (fun z => hne (z.symm.trans e1)), if_pos e1, e1, g_set_eq _ _ _ (by simpa using b), g_set_ne _ _ _ _ hne]
    omega
  · rw [g_set_ne _ _ _ _ (fun z => e1 z.symm), if_neg e1]
    by_cases e2 : k = low x
    · rw [if_pos e2, e2, g_set_eq _ _ _ a]; omega
    · rw [if_neg e2, g_set_ne _ _ _ _ (fun z => e2 z.symm)]; omega
theorem sum_zero_nonneg : ∀ x : List Int, (∀ v ∈ x, 0 ≤ v) → x.sum = 0 → ∀ v ∈ x, v = 0
  | [], _, _, v, hv => by cases hv
  | a :: x, h, hs, v, hv => by
    have ha := h a List.mem_cons_self
    have hx : ∀ w ∈ x, 0 ≤ w := fun w hw => h w (List.mem_cons_of_mem _ hw)
    have hn : 0 ≤ x.sum := by
      clear hs hv h ha
      induction x with
      | nil => simp
      | cons b x ih =>
        have := ih (fun w hw => hx w (List.mem_cons_of_mem _ hw))
        have := hx b List.mem_cons_self
        rw [List.sum_cons]; omega
    rw [List.sum_cons] at hs
    rcases List.mem_cons.1 hv with e | e
    · omega
    · exact sum_zero_nonneg x hx (by omega) v e
theorem due_zero {x : List Int} (h : good x) (hd : PuSettleSettled.due x ≤ 0) (k : Nat) : g x k = 0 := by
  obtain ⟨a, b, c, d, e, f1, f2⟩ := pick h
  have hs := h.2.2.2
  have hz : ∀ v ∈ x, v = 0 := by
    by_cases hl : g x (low x) = 0
    · exact sum_zero_nonneg x (fun v hv => by have := (e v hv).1; omega) hs
    · have hh : g x (high x) = 0 := by
        unfold PuSettleSettled.due at hd
        split at hd <;> omega
      intro v hv
      have hneg : ∀ y : List Int, (y.map fun z => -z).sum = -y.sum := by
        intro y
        induction y with
        | nil => rfl
        | cons b y ih => rw [List.map_cons, List.sum_cons, List.sum_cons, ih]; omega
      have := sum_zero_nonneg (x.map fun z => -z) (fun w hw => by
        obtain ⟨z, hz, rfl⟩ := List.mem_map.1 hw
        have := (e z hz).2
        omega) (by rw [hneg, hs]; rfl) (-v) (List.mem_map.2 ⟨v, hv, rfl⟩)
      omega
  by_cases hk : k < x.length
  · rw [g_lt x k hk]; exact hz _ (List.getElem_mem hk)
  · simp [g, List.getD_eq_getElem?_getD, List.getElem?_eq_none (show x.length ≤ k by omega)]
theorem settle_tot : ∀ (m : Nat) (x : List Int), nz x < m → good x → ∀ k, g x k + tot ((settleL x).map toP) k = 0
  | 0, x, hm, _, _ => by omega
  | m + 1, x, hm, h, k => by
    rw [settle_step h]
    by_cases hd : PuSettleSettled.due x ≤ 0
    · rw [if_pos hd, due_zero h hd]; rfl
    · rw [if_neg hd, List.map_cons, tot_cons]
      obtain ⟨hne, hg, hn⟩ := pay_spec h (by omega)
      have ih := settle_tot m (pay x) (by omega) hg k
      rw [pay_g h (by omega) k] at ih
      have e : toP (⟨(low x : Int), (high x : Int), PuSettleSettled.due x⟩ : D) = (low x, high x, PuSettleSettled.due x) := by simp [toP]
      rw [e]; omega
theorem settle_in : ∀ (m : Nat) (x : List Int), nz x < m → good x → ∀ d ∈ settleL x, 0 ≤ d.f0 ∧ d.f0 < x.length ∧ 0 ≤ d.f1 ∧ d.f1 < x.length ∧ d.f0 ≠ d.f1 ∧ 1 ≤ d.f2 ∧ d.f2 ≤ 100000000 ∧ g x d.f0.toNat ≠ 0 ∧ g x d.f1.toNat ≠ 0
  | 0, x, hm, _, _, _ => by omega
  | m + 1, x, hm, h, d, hd => by
    rw [settle_step h] at hd
    by_cases h0 : PuSettleSettled.due x ≤ 0
    · rw [if_pos h0] at hd; cases hd
    · rw [if_neg h0] at hd
      obtain ⟨a, b, c, e, f, f1, f2⟩ := pick h
      obtain ⟨d0, d1, d2, d3⟩ := due_bd h
      obtain ⟨hne, hg, hn⟩ := pay_spec h (by omega)
      have hl : g x (low x) ≠ 0 := by omega
      have hh : g x (high x) ≠ 0 := by omega
      rcases List.mem_cons.1 hd with e | e
      · subst e
        refine ⟨by simp, by simp; omega, by simp, by simp; omega, ?_, by dsimp only; omega, by dsimp only; omega, by simpa using hl, by simpa using hh⟩
        dsimp only; omega
      · obtain ⟨p0, p1, p2, p3, p4, p5, p6, p7, p8⟩ := settle_in m (pay x) (by omega) hg d e
        have hlen : (pay x).length = x.length := by simp [pay]
        rw [hlen] at p1 p3
        have hk : ∀ k, g (pay x) k ≠ 0 → g x k ≠ 0 := by
          intro k hk
          by_cases e1 : k = low x
          · rw [e1]; exact hl
          · by_cases e2 : k = high x
            · rw [e2]; exact hh
            · rw [pay_g h (by omega)] at hk
              unfold dl at hk
              rw [if_neg e1, if_neg e2] at hk
              omega
        exact ⟨p0, p1, p2, p3, p4, p5, p6, hk _ p7, hk _ p8⟩
theorem nz_two (x : List Int) (i j : Nat) (hi : i < x.length) (hj : j < x.length) (hij : i ≠ j) (h1 : g x i ≠ 0) (h2 : g x j ≠ 0) : 2 ≤ nz x := by
  have a := nz_set x i 0 hi
  have b := nz_set (x.set i 0) j 0 (by simpa using hj)
  rw [g_set_ne _ _ _ _ hij, if_neg h2] at b
  rw [if_neg h1] at a
  simp at a b
  omega
theorem settle_few : ∀ (m : Nat) (x : List Int), nz x < m → good x → (nz x = 0 → settleL x = []) ∧ (0 < nz x → (settleL x).length + 1 ≤ nz x)
  | 0, x, hm, _ => by omega
  | m + 1, x, hm, h => by
    rw [settle_step h]
    by_cases h0 : PuSettleSettled.due x ≤ 0
    · rw [if_pos h0]; exact ⟨fun _ => rfl, fun z => by simp; omega⟩
    · rw [if_neg h0]
      obtain ⟨a, b, c, e, f, f1, f2⟩ := pick h
      obtain ⟨d0, d1, d2, d3⟩ := due_bd h
      obtain ⟨hne, hg, hn⟩ := pay_spec h (by omega)
      have h2 := nz_two x (low x) (high x) a b hne (by omega) (by omega)
      refine ⟨fun z => by omega, fun _ => ?_⟩
      obtain ⟨p, q⟩ := settle_few m (pay x) (by omega) hg
      rw [List.length_cons]
      by_cases hz : nz (pay x) = 0
      · rw [p hz]; simp; omega
      · have := q (by omega); omega
end Go.Proofs.YtcghnnhhgngddaaDoor.PuSetBSettled
-- a text of this session, cut down for this claim
namespace Go.Proofs.YtcghnnhhgngddaaDoor.PuTabsSettled
open Go.RowKit Go.Proofs.YtcghnnhhgngddaaDoor.MSettled Go.Proofs.YtcghnnhhgngddaaDoorW.PrintWords Go.Proofs.YtcghnnhhgngddaaDoorW.PrintLast Go.Proofs.YtcghnnhhgngddaaDoorW.PrintMore Go.Proofs.YtcghnnhhgngddaaDoor.Evs Go.Proofs.YtcghnnhhgngddaaDoor.PuSubSettled
set_option linter.unusedVariables false
set_option linter.unusedSimpArgs false
def ftab (F : (Nat → Int) → Nat → Int) (N s : Nat) : List Int := tab F s ++ List.replicate (N - s) 0
theorem ft_len (F : (Nat → Int) → Nat → Int) {N s : Nat} (h : s ≤ N) : (ftab F N s).length = N := by
  simp only [ftab, List.length_append, tab_len, List.length_replicate]; omega
theorem ft_rd (F : (Nat → Int) → Nat → Int) {N s j : Nat} (h : j < s) : rd (ftab F N s) (j : Int) = val F j := by
  show (ftab F N s).getD j 0 = _
  unfold ftab
  rw [List.getD_eq_getElem?_getD, List.getElem?_append_left (by rw [tab_len]; exact h), ← List.getD_eq_getElem?_getD]
  exact tab_get F s j h
theorem ft_set {F : (Nat → Int) → Nat → Int} (hF : Low F) {N s : Nat} (h : s < N) : (ftab F N s).set s (val F s) = ftab F N (s + 1) := by
  unfold ftab
  rw [tab_next hF, List.set_append_right _ _ (by rw [tab_len]; omega), tab_len, Nat.sub_self, show N - s = (N - (s + 1)) + 1 by omega, List.replicate_succ, List.set_cons_zero, List.append_assoc]
  rfl
theorem ft_skip {F : (Nat → Int) → Nat → Int} (hF : Low F) {N s : Nat} (h : s < N) (h0 : val F s = 0) : ftab F N s = ftab F N (s + 1) := by
  unfold ftab
  rw [tab_next hF, h0, show N - s = (N - (s + 1)) + 1 by omega, List.replicate_succ, List.append_assoc]
  rfl
theorem rd_set_ne (l : List Int) (s j : Nat) (m : Int) (h : s ≠ j) : rd (l.set s m) (j : Int) = rd l (j : Int) := by
  show (l.set s m).getD j 0 = l.getD j 0
  rw [List.getD_eq_getElem?_getD, List.getElem?_set_ne h, ← List.getD_eq_getElem?_getD]
theorem rd_set_eq (l : List Int) (s : Nat) (m : Int) (h : s < l.length) : rd (l.set s m) (s : Int) = m := by
  show (l.set s m).getD s 0 = m
  rw [List.getD_eq_getElem?_getD, List.getElem?_set_self h]; rfl
theorem ft_first {F : (Nat → Int) → Nat → Int} (h0 : val F 0 = 0) {N : Nat} (h : 0 < N) : List.replicate N 0 = ftab F N 1 := by
  have e : tab F 1 = [val F 0] := rfl
  unfold ftab
  rw [e, h0, show N = (N - 1) + 1 by omega, List.replicate_succ]
  simp
def FS (vs : List Int) (_ : Nat → Int) (s : Nat) : Int := sm vs s
theorem FS_low (vs : List Int) : Low (FS vs) := fun _ _ _ _ => rfl
theorem FS_val (vs : List Int) (s : Nat) : val (FS vs) s = sm vs s := by rw [val_eq (FS_low vs)]; rfl
theorem best_bd (c : Nat → Bool) (v : Nat → Int) (lo hi : Int) : ∀ (l : List Nat) (m : Int), lo ≤ m → m ≤ hi → (∀ q ∈ l, c q = true → v q ≤ hi) → lo ≤ best c v m l ∧ best c v m l ≤ hi
  | l, m, h1, h2, h => by
    have a := best_ge c v l m
    rcases best_ex c v l m with e | ⟨q, hq, hc, e⟩
    · rw [e]; exact ⟨h1, h2⟩
    · have := h q hq hc
      rw [e] at a ⊢
      omega
theorem B_bd (vs : List Int) : ∀ (n s : Nat), s < n → 0 ≤ B vs s ∧ B vs s ≤ s
  | 0, s, h => by omega
  | n + 1, s, h => by
    by_cases h0 : s = 0
    · subst h0; rw [B_zero]; omega
    · by_cases hz : sm vs s = 0
      · rw [B_yes vs h0 hz]
        have := best_bd (fun q => decide (sm vs q = 0)) (fun q => 1 + B vs (s - q)) 1 s (subs s s) 1 (by omega) (by omega) (fun q hq _ => by
          have hq := subs_lt hq
          have := B_bd vs n (s - q) (by omega)
          omega)
        omega
      · rw [B_no vs hz]; omega
theorem G_bd (vs : List Int) : ∀ (n s : Nat), s < n → -1 ≤ G vs s ∧ G vs s ≤ s
  | 0, s, h => by omega
  | n + 1, s, h => by
    by_cases h0 : s = 0
    · subst h0; rw [G_zero]; omega
    · by_cases hz : sm vs s = 0
      · rw [G_yes vs h0 hz]
        have := best_bd (fun q => decide (0 < G vs q ∧ 0 < G vs (s - q))) (fun q => G vs q + G vs (s - q)) 1 s (subs s s) 1 (by omega) (by omega) (fun q hq _ => by
          have hq := subs_lt hq
          have := G_bd vs n (s - q) (by omega)
          have := G_bd vs n q (by omega)
          omega)
        omega
      · rw [G_no vs hz]; omega
theorem sm_bd : ∀ (vs : List Int) (s : Nat), (∀ v ∈ vs, -100000000 ≤ v ∧ v ≤ 100000000) → -100000000 * (vs.length : Int) ≤ sm vs s ∧ sm vs s ≤ 100000000 * (vs.length : Int)
  | [], s, _ => by simp [sm]
  | v :: vs, s, h => by
    have a := sm_bd vs (s / 2) (fun w hw => h w (List.mem_cons_of_mem _ hw))
    have b := h v List.mem_cons_self
    simp only [sm, List.length_cons]
    split <;> omega
theorem sm_all : ∀ vs : List Int, sm vs (2 ^ vs.length - 1) = vs.sum
  | [] => rfl
  | v :: vs => by
    have ih := sm_all vs
    have hp := Nat.two_pow_pos vs.length
    rw [List.length_cons, Nat.pow_succ, List.sum_cons]
    simp only [sm]
    rw [if_pos (by omega), show (2 ^ vs.length * 2 - 1) / 2 = 2 ^ vs.length - 1 by omega, ih]
def low1 : Nat → Nat → Nat
  | 0, _ => 0
  | f + 1, s => if s % 2 = 1 then 0 else 1 + low1 f (s / 2)
theorem low_sum : ∀ (vs : List Int) (f s : Nat), 0 < s → s < 2 ^ vs.length → s < 2 ^ f → low1 f s < vs.length ∧ sm vs s = sm vs (s &&& (s - 1)) + vs.getD (low1 f s) 0
  | [], f, s, h0, h1, _ => by simp at h1; omega
  | v :: vs, 0, s, h0, _, h2 => by simp at h2; omega
  | v :: vs, f + 1, s, h0, h1, h2 => by
    rw [List.length_cons, Nat.pow_succ] at h1
    rw [Nat.pow_succ] at h2
    have a1 := half_and s (s - 1)
    have a2 := odd_and s (s - 1)
    unfold low1
    simp only [sm, List.length_cons]
    by_cases e : s % 2 = 1
    · have e1 : (s - 1) / 2 = s / 2 := by omega
      have e2 : (s - 1) % 2 = 0 := by omega
      rw [e1, Nat.and_self] at a1
      rw [e2] at a2
      rw [if_pos e, if_pos e, a1, if_neg (by omega)]
      exact ⟨by omega, by simp; omega⟩
    · have e1 : (s - 1) / 2 = s / 2 - 1 := by omega
      have e0 : s % 2 = 0 := by omega
      rw [e1] at a1
      rw [e0] at a2
      obtain ⟨i1, i2⟩ := low_sum vs f (s / 2) (by omega) (by omega) (by omega)
      rw [if_neg e, if_neg e, a1, if_neg (by omega), i2]
      refine ⟨by omega, ?_⟩
      rw [show (v :: vs).getD (1 + low1 f (s / 2)) 0 = vs.getD (low1 f (s / 2)) 0 by rw [Nat.add_comm]; rfl]
      omega
theorem low_eq : ∀ (f g s : Nat), 0 < s → s < 2 ^ f → s < 2 ^ g → low1 f s = low1 g s
  | 0, _, s, h0, h1, _ => by simp at h1; omega
  | _, 0, s, h0, _, h1 => by simp at h1; omega
  | f + 1, g + 1, s, h0, h1, h2 => by
    rw [Nat.pow_succ] at h1 h2
    unfold low1
    by_cases e : s % 2 = 1
    · rw [if_pos e, if_pos e]
    · rw [if_neg e, if_neg e, low_eq f g (s / 2) (by omega) (by omega) (by omega)]
theorem low_ctz : ∀ (f s : Nat), low1 f s = Lib.ctzFrom f s
  | 0, s => rfl
  | f + 1, s => by
    unfold low1 Lib.ctzFrom
    rw [low_ctz f (s / 2)]
theorem sm_take : ∀ (vs : List Int) (k s : Nat), k < vs.length → sm (vs.take (k + 1)) s = sm (vs.take k) s + (if s.testBit k = true then vs.getD k 0 else 0)
  | [], k, s, h => by simp at h
  | v :: vs, 0, s, h => by
    simp only [List.take_succ_cons, List.take_zero, sm, Nat.testBit_zero, decide_eq_true_iff]
    simp
  | v :: vs, k + 1, s, h => by
    have ih := sm_take vs k (s / 2) (by simpa using h)
    simp only [List.take_succ_cons, sm, Nat.testBit_succ] at ih ⊢
    rw [ih]
    show _ = _ + _ + (if (s / 2).testBit k = true then vs.getD k 0 else 0)
    omega
end Go.Proofs.YtcghnnhhgngddaaDoor.PuTabsSettled
-- a text of this session, cut down for this claim
namespace Go.Proofs.YtcghnnhhgngddaaDoor.PuFewSettled
open Go.RowKit Go.Proofs.YtcghnnhhgngddaaDoor.MSettled Go.Proofs.YtcghnnhhgngddaaDoorW.PrintWords Go.Proofs.YtcghnnhhgngddaaDoorW.PrintLast Go.Proofs.YtcghnnhhgngddaaDoor.Evs Go.Proofs.YtcghnnhhgngddaaDoor.PuDebtSettled Go.Proofs.YtcghnnhhgngddaaDoor.PuZeroSettled Go.Proofs.YtcghnnhhgngddaaDoor.PuSettleSettled Go.Proofs.YtcghnnhhgngddaaDoor.PuSubSettled Go.Proofs.YtcghnnhhgngddaaDoor.PuPaysSettled Go.Proofs.YtcghnnhhgngddaaDoor.PuSetBSettled Go.Proofs.YtcghnnhhgngddaaDoor.PuOpnSettled Go.Proofs.YtcghnnhhgngddaaDoor.PuTabsSettled
set_option linter.unusedVariables false
set_option linter.unusedSimpArgs false
def own (x : List Int) (l : List Nat) : List Int := l.foldl (fun y m => y.set m (g x m)) (List.replicate x.length 0)
theorem own_gen (x : List Int) : ∀ (l : List Nat) (y : List Int), y.length = x.length → l.Nodup → (∀ j ∈ l, j < x.length ∧ g x j ≠ 0 ∧ g y j = 0) →
    (l.foldl (fun y m => y.set m (g x m)) y).length = x.length ∧ (∀ j, g (l.foldl (fun y m => y.set m (g x m)) y) j = if j ∈ l then g x j else g y j) ∧
    (l.foldl (fun y m => y.set m (g x m)) y).sum = y.sum + (l.map (g x)).sum ∧ nz (l.foldl (fun y m => y.set m (g x m)) y) = nz y + l.length
  | [], y, hy, _, _ => ⟨hy, fun j => by simp, by simp, by simp⟩
  | m :: l, y, hy, hn, h => by
    have hn := List.nodup_cons.1 hn
    have hm := h m List.mem_cons_self
    have hlt : m < y.length := by omega
    obtain ⟨a, b, c, d⟩ := own_gen x l (y.set m (g x m)) (by simpa using hy) hn.2 (fun j hj => by
      have := h j (List.mem_cons_of_mem _ hj)
      have hne : m ≠ j := fun e => hn.1 (by rw [e]; exact hj)
      rw [g_set_ne _ _ _ _ hne]; exact this)
    refine ⟨a, fun j => ?_, ?_, ?_⟩
    · rw [List.foldl_cons, b j]
      by_cases e : j ∈ l
      · rw [if_pos e, if_pos (List.mem_cons_of_mem _ e)]
      · rw [if_neg e]
        by_cases e2 : j = m
        · subst e2
          rw [if_pos List.mem_cons_self, g_set_eq _ _ _ hlt]
        · rw [if_neg (fun z => (List.mem_cons.1 z).elim e2 e), g_set_ne _ _ _ _ (fun z => e2 z.symm)]
    · rw [List.foldl_cons, c, sum_set _ _ _ hlt, hm.2.2, List.map_cons, List.sum_cons]; omega
    · rw [List.foldl_cons, d, List.length_cons]
      have := nz_set y m (g x m) hlt
      rw [if_pos hm.2.2, if_neg hm.2.1] at this
      omega
theorem g_rep (n j : Nat) : g (List.replicate n 0) j = 0 := by
  simp only [g, List.getD_eq_getElem?_getD, List.getElem?_replicate]
  split <;> rfl
theorem nz_rep : ∀ n, nz (List.replicate n 0) = 0
  | 0 => rfl
  | n + 1 => by rw [List.replicate_succ]; simp [nz, nz_rep n]
theorem sum_rep : ∀ n, (List.replicate n (0 : Int)).sum = 0
  | 0 => rfl
  | n + 1 => by rw [List.replicate_succ, List.sum_cons, sum_rep n]; rfl
theorem sm_mem : ∀ (vs : List Int) (s : Nat), sm vs s = ((mem vs.length s).map fun k => vs.getD k 0).sum
  | [], s => rfl
  | v :: vs, s => by
    have ih := sm_mem vs (s / 2)
    have e : mem (v :: vs).length s = (if s % 2 = 1 then [0] else []) ++ (mem vs.length (s / 2)).map (· + 1) := by
      unfold mem
      rw [List.length_cons, List.range_succ_eq_map, List.filter_cons, List.filter_map]
      have e1 : s.testBit 0 = decide (s % 2 = 1) := by rw [Nat.testBit_zero]
      have e2 : ((fun i => s.testBit i) ∘ Nat.succ) = fun i => (s / 2).testBit i := by
        funext i
        simp [Nat.testBit_succ]
      rw [e1, e2]
      by_cases h : s % 2 = 1
      · simp [h]
      · simp [h]
    rw [e, List.map_append, List.sum_append, List.map_map]
    simp only [sm, ih]
    have e3 : ((fun k => (v :: vs).getD k 0) ∘ fun x => x + 1) = fun k => vs.getD k 0 := by
      funext k; rfl
    rw [e3]
    by_cases h : s % 2 = 1
    · rw [if_pos h, if_pos h]; simp
    · rw [if_neg h, if_neg h]; simp
theorem ppl_sum (x : List Int) (s : Nat) : ((ppl x s).map (g x)).sum = sm (vals x) s := by
  rw [sm_mem]
  unfold ppl vals
  rw [List.map_map, List.length_map]
  congr 1
  apply List.map_congr_left
  intro k hk
  have hk := ((mem_mem _ _ _).1 hk).1
  show g x (at_ x k) = ((opn x).map (g x)).getD k 0
  rw [at_get x k hk]
  simp [List.getD_eq_getElem?_getD, hk]
theorem own_spec (x : List Int) (s : Nat) : (own x (ppl x s)).length = x.length ∧ (∀ j, g (own x (ppl x s)) j = if j ∈ ppl x s then g x j else 0) ∧
    (own x (ppl x s)).sum = sm (vals x) s ∧ nz (own x (ppl x s)) = (mem (opn x).length s).length := by
  have h := own_gen x (ppl x s) (List.replicate x.length 0) (by simp) ((ppl_pw x s).imp (fun h => by omega)) (fun j hj => ⟨(ppl_opn x s hj).1, (ppl_opn x s hj).2, g_rep _ _⟩)
  unfold own
  refine ⟨h.1, fun j => ?_, ?_, ?_⟩
  · rw [h.2.1 j, g_rep]
  · rw [h.2.2.1, sum_rep, ppl_sum]; omega
  · rw [h.2.2.2, nz_rep]; unfold ppl; rw [List.length_map]; omega
theorem own_good (x : List Int) (h : good x) (s : Nat) (hz : sm (vals x) s = 0) : good (own x (ppl x s)) := by
  obtain ⟨a, b, c, d⟩ := own_spec x s
  obtain ⟨h1, h2, h3, h4⟩ := h
  refine ⟨by omega, by omega, fun v hv => ?_, by rw [c]; exact hz⟩
  obtain ⟨j, hj, e⟩ := List.mem_iff_getElem.1 hv
  have hb := b j
  rw [g_lt _ j hj, e] at hb
  rw [hb]
  split
  · rw [g_lt x j (by omega)]; exact h3 _ (List.getElem_mem _)
  · omega
theorem mem_split (n s p : Nat) (h : Sb p s) : (mem n s).length = (mem n p).length + (mem n (s - p)).length := by
  have : ∀ l : List Nat, (l.filter fun i => s.testBit i).length = (l.filter fun i => p.testBit i).length + (l.filter fun i => (s - p).testBit i).length := by
    intro l
    induction l with
    | nil => rfl
    | cons i l ih =>
      have a := sub_bit (s + 1) s p (by omega) h i
      have b := Sb_bit.1 h i
      rw [List.filter_cons, List.filter_cons, List.filter_cons]
      cases hp : p.testBit i
      · rw [hp] at a
        cases hs : s.testBit i <;> rw [hs] at a <;> rw [a] <;> simp <;> omega
      · rw [b hp] at a ⊢
        rw [hp] at a
        rw [a]; simp; omega
  exact this _
theorem low_bit : ∀ (f s : Nat), 0 < s → s < 2 ^ f → s.testBit (low1 f s) = true
  | 0, s, h, h2 => by simp at h2; omega
  | f + 1, s, h, h2 => by
    unfold low1
    rw [Nat.pow_succ] at h2
    by_cases e : s % 2 = 1
    · rw [if_pos e, Nat.testBit_zero]; exact decide_eq_true e
    · rw [if_neg e, Nat.add_comm, Nat.testBit_succ]
      exact low_bit f (s / 2) (by omega) (by omega)
def grp (x : List Int) (s : Nat) : Nat := first (vals x) (opn x).length (low1 (opn x).length s) s
def fewF (x : List Int) : Nat → Nat → List D
  | 0, _ => []
  | m + 1, s => if s = 0 then [] else settleL (own x (ppl x (grp x s))) ++ fewF x m (s - grp x s)
def glF (x : List Int) : Nat → Nat → List Nat
  | 0, _ => []
  | m + 1, s => if s = 0 then [] else grp x s :: glF x m (s - grp x s)
theorem few_gl (x : List Int) : ∀ (m s : Nat), fewF x m s = (glF x m s).flatMap fun p => settleL (own x (ppl x p))
  | 0, s => rfl
  | m + 1, s => by
    simp only [fewF, glF]
    split
    · rfl
    · rw [List.flatMap_cons, few_gl x m]
def allS (x : List Int) : Nat := 2 ^ (opn x).length - 1
def fewL (x : List Int) : List D := fewF x (2 ^ (opn x).length) (allS x)
theorem grp_spec (x : List Int) (s : Nat) (h0 : 0 < s) (hs : s < 2 ^ (opn x).length) (hz : sm (vals x) s = 0) :
    0 < grp x s ∧ Sb (grp x s) s ∧ sm (vals x) (grp x s) = 0 ∧ sm (vals x) (s - grp x s) = 0 ∧ G (vals x) (s - grp x s) + 1 = G (vals x) s ∧ s - grp x s < s := by
  obtain ⟨a, b, c, d, e⟩ := first_spec (vals x) (opn x).length (low1 (opn x).length s) s hz (low_bit _ s h0 hs)
  refine ⟨a, b, c, ?_, e, ?_⟩
  · have := sm_sub (vals x) s _ b
    rw [hz, c] at this
    exact this
  · have : 0 < grp x s := a
    omega
theorem few_spec (x : List Int) (h : good x) : ∀ (m s : Nat), s < m → s < 2 ^ (opn x).length → sm (vals x) s = 0 →
    (∀ j, (if j ∈ ppl x s then g x j else 0) + tot ((fewF x m s).map toP) j = 0) ∧
    ((fewF x m s).length + G (vals x) s ≤ (mem (opn x).length s).length) ∧
    (∀ d ∈ fewF x m s, 0 ≤ d.f0 ∧ d.f0 < x.length ∧ 0 ≤ d.f1 ∧ d.f1 < x.length ∧ d.f0 ≠ d.f1 ∧ 1 ≤ d.f2 ∧ d.f2 ≤ 100000000 ∧ g x d.f0.toNat ≠ 0 ∧ g x d.f1.toNat ≠ 0)
  | 0, s, hm, _, _ => by omega
  | m + 1, s, hm, hs, hz => by
    by_cases h0 : s = 0
    · subst h0
      have e : mem (opn x).length 0 = [] := by simp [mem]
      simp only [fewF, if_true]
      refine ⟨fun j => ?_, by rw [G_zero, e]; simp, fun d hd => by cases hd⟩
      unfold ppl
      rw [e]
      simp [tot]
    · obtain ⟨a, b, c, c2, d, e⟩ := grp_spec x s (by omega) hs hz
      have hg := own_good x h (grp x s) c
      obtain ⟨o1, o2, o3, o4⟩ := own_spec x (grp x s)
      obtain ⟨i1, i2, i3⟩ := few_spec x h m (s - grp x s) (by omega) (by omega) c2
      simp only [fewF]
      rw [if_neg h0]
      refine ⟨fun j => ?_, ?_, ?_⟩
      · rw [List.map_append, tot_append]
        have t := settle_tot (nz (own x (ppl x (grp x s))) + 1) _ (by omega) hg j
        have t2 := i1 j
        rw [o2 j] at t
        by_cases ho : j ∈ opn x
        · obtain ⟨k, hk, rfl⟩ := opn_at x ho
          have u := sub_bit (s + 1) s (grp x s) (by omega) b k
          have u2 := Sb_bit.1 b k
          have m1 := ppl_at x s k hk
          have m2 := ppl_at x (grp x s) k hk
          have m3 := ppl_at x (s - grp x s) k hk
          cases hp : (grp x s).testBit k
          · rw [hp] at u m2
            rw [if_neg (fun z => by have := m2.1 z; cases this)] at t
            cases hq : s.testBit k
            · rw [hq] at u m1
              rw [u] at m3
              rw [if_neg (fun z => by have := m3.1 z; cases this)] at t2
              rw [if_neg (fun z => by have := m1.1 z; cases this)]
              omega
            · rw [hq] at u m1
              rw [u] at m3
              rw [if_pos (m3.2 rfl)] at t2
              rw [if_pos (m1.2 rfl)]
              omega
          · have hq := u2 hp
            rw [hp, hq] at u
            rw [hp] at m2
            rw [hq] at m1
            rw [u] at m3
            rw [if_pos (m2.2 rfl)] at t
            rw [if_neg (fun z => by have := m3.1 z; cases this)] at t2
            rw [if_pos (m1.2 rfl)]
            omega
        · have no : ∀ q, j ∉ ppl x q := fun q hq => ho ((opn_mem x j).2 (ppl_opn x q hq))
          rw [if_neg (no _)] at t t2 ⊢
          omega
      · rw [List.length_append]
        have w := (settle_few (nz (own x (ppl x (grp x s))) + 1) _ (by omega) hg).2
        rw [o4] at w
        have sp := mem_split (opn x).length s (grp x s) b
        have hpos : 0 < (mem (opn x).length (grp x s)).length := by
          apply List.length_pos_iff.2
          intro hnil
          have : sm (vals x) (grp x s) = 0 := c
          have hall : ∀ k, k < (opn x).length → (grp x s).testBit k = false := fun k hk => by
            cases hb : (grp x s).testBit k
            · rfl
            · have := (mem_mem (opn x).length (grp x s) k).2 ⟨hk, hb⟩
              rw [hnil] at this; cases this
          have hlt : grp x s < 2 ^ (opn x).length := by have := Sb_le b; omega
          have hbit := low_bit _ (grp x s) a hlt
          by_cases hl : low1 (opn x).length (grp x s) < (opn x).length
          · rw [hall _ hl] at hbit; cases hbit
          · have : (grp x s).testBit (low1 (opn x).length (grp x s)) = false := Nat.testBit_lt_two_pow (Nat.lt_of_lt_of_le hlt (Nat.pow_le_pow_right (by omega) (by omega)))
            rw [this] at hbit; cases hbit
        have w := w hpos
        omega
      · intro dd hd
        rcases List.mem_append.1 hd with hd | hd
        · obtain ⟨p0, p1, p2, p3, p4, p5, p6, p7, p8⟩ := settle_in (nz (own x (ppl x (grp x s))) + 1) _ (by omega) hg dd hd
          rw [o1] at p1 p3
          rw [o2] at p7 p8
          refine ⟨p0, p1, p2, p3, p4, p5, p6, ?_, ?_⟩
          · intro z; rw [z] at p7; simp at p7
          · intro z; rw [z] at p8; simp at p8
        · exact i3 dd hd
end Go.Proofs.YtcghnnhhgngddaaDoor.PuFewSettled
-- a text of this session, cut down for this claim
namespace Go.Proofs.YtcghnnhhgngddaaDoor.PuBitNSettled
open Go.RowKit Go.Proofs.YtcghnnhhgngddaaDoor.MSettled Go.Proofs.YtcghnnhhgngddaaDoorW.PrintWords Go.Proofs.YtcghnnhhgngddaaDoorW.PrintLast Go.Proofs.YtcghnnhhgngddaaDoorW.PrintMore Go.Proofs.YtcghnnhhgngddaaDoor.Evs Go.Proofs.YtcghnnhhgngddaaDoor.PuSubSettled
set_option linter.unusedVariables false
set_option linter.unusedSimpArgs false
theorem and_n (a b : Nat) (ha : a < 1048576) (hb : b < 1048576) : Go.bits .and .i64 (a : Int) (b : Int) = ((a &&& b : Nat) : Int) := by
  have hx : a &&& b < 2 ^ 20 := Nat.and_lt_two_pow _ (by omega)
  show IntKind.i64.wrap ((BitVec.ofInt 64 (a : Int) &&& BitVec.ofInt 64 (b : Int)).toNat : Int) = _
  rw [BitVec.toNat_and, ofInt_u64 a (by omega), ofInt_u64 b (by omega), i64_w, wrap_id (by omega) (by omega)]
theorem andNot_n (a b : Nat) (h : Sb b a) (ha : a < 1048576) : Go.bits .andNot .i64 (a : Int) (b : Int) = ((a - b : Nat) : Int) := by
  have hb := Sb_le h
  have e : a &&& (18446744073709551615 - b) = a - b := by
    apply Nat.eq_of_testBit_eq; intro i
    rw [Nat.testBit_and, sub_bit (a + 1) a b (by omega) h]
    by_cases hi : i < 64
    · have : (18446744073709551615 - b).testBit i = !b.testBit i := by
        have := Nat.testBit_two_pow_sub_succ (x := b) (n := 64) (by omega) i
        rw [show 18446744073709551615 - b = 2 ^ 64 - (b + 1) by omega, this]; simp [hi]
      rw [this]
    · have : a.testBit i = false := Nat.testBit_lt_two_pow (Nat.lt_of_lt_of_le (by omega : a < 2 ^ 20) (Nat.pow_le_pow_right (by omega) (by omega)))
      rw [this]; rfl
  show IntKind.i64.wrap ((BitVec.ofInt 64 (a : Int) &&& ~~~BitVec.ofInt 64 (b : Int)).toNat : Int) = _
  rw [BitVec.toNat_and, BitVec.toNat_not, ofInt_u64 a (by omega), ofInt_u64 b (by omega), i64_w]
  have e2 : 2 ^ 64 - 1 - b = 18446744073709551615 - b := by omega
  rw [e2, e, wrap_id (by omega) (by omega)]
theorem shl_n (n : Nat) (h : n ≤ 10) : shl .i64 1 (n : Int) = ((2 ^ n : Nat) : Int) := by
  unfold shl
  rw [i64_w, Int.toNat_natCast]
  have : ∀ m, m ≤ 10 → wrap64 (1 * 2 ^ min m 64) = ((2 ^ m : Nat) : Int) := by decide +kernel
  exact this n h
theorem shr_n (s k : Nat) (hk : k < 64) : shr .i64 (s : Int) (k : Int) = ((s / 2 ^ k : Nat) : Int) := by
  unfold shr
  rw [Int.toNat_natCast, Nat.min_eq_left (by show k ≤ 64; omega)]
  simp
theorem u64_n (k : Nat) (hk : k < 64) : IntKind.u64.wrap (k : Int) = (k : Int) := by rw [IntKind.wrap_u64]; omega
theorem odd_n (s k : Nat) (hk : k < 64) : Int.tmod (shr .i64 (s : Int) (k : Int)) 2 = 1 ↔ s.testBit k = true := by
  rw [shr_n s k hk, show Int.tmod ((s / 2 ^ k : Nat) : Int) 2 = ((s / 2 ^ k % 2 : Nat) : Int) from rfl, Nat.testBit_eq_decide_div_mod_eq, decide_eq_true_iff]
  omega
end Go.Proofs.YtcghnnhhgngddaaDoor.PuBitNSettled
-- a text of this session, cut down for this claim
namespace Go.Proofs.YtcghnnhhgngddaaDoor.PuPartSettled
open Go.RowKit Go.Proofs.YtcghnnhhgngddaaDoor.MSettled Go.Proofs.YtcghnnhhgngddaaDoorW.PrintWords Go.Proofs.YtcghnnhhgngddaaDoorW.PrintLast Go.Proofs.YtcghnnhhgngddaaDoorW.PrintMore Go.Proofs.YtcghnnhhgngddaaDoor.Evs Go.Proofs.YtcghnnhhgngddaaDoor.PuZeroSettled Go.Proofs.YtcghnnhhgngddaaDoor.PuSubSettled Go.Proofs.YtcghnnhhgngddaaDoor.PuOpnSettled Go.Proofs.YtcghnnhhgngddaaDoor.PuBitNSettled Go.Proofs.YtcghnnhhgngddaaDoor.PuTabsSettled
open Go.Proofs.YtcghnnhhgngddaaDoor.PuSettleSettled (g good good_of g_lt)
set_option linter.unusedVariables false
set_option linter.unusedSimpArgs false
def ints (l : List Nat) : List Int := l.map fun (i : Nat) => (i : Int)
def oi (x : List Int) (i : Nat) : List Nat := (List.range i).filter fun j => decide (g x j ≠ 0)
theorem oi_step (x : List Int) (i : Nat) : oi x (i + 1) = if g x i = 0 then oi x i else oi x i ++ [i] := by
  unfold oi
  rw [List.range_succ, List.filter_append]
  by_cases h : g x i = 0
  · rw [if_pos h, List.filter_cons, if_neg (show ¬ decide (g x i ≠ 0) = true from by rw [h]; decide), List.filter_nil, List.append_nil]
  · rw [if_neg h, List.filter_cons, if_pos (show decide (g x i ≠ 0) = true from decide_eq_true h), List.filter_nil]
theorem oi_len (x : List Int) (i : Nat) : (oi x i).length ≤ i := by
  have := List.length_filter_le (fun j => decide (g x j ≠ 0)) (List.range i)
  simpa [oi] using this
theorem ints_len (l : List Nat) : (ints l).length = l.length := by simp [ints]
theorem ints_snoc (l : List Nat) (i : Nat) : ints (l ++ [i]) = ints l ++ [(i : Int)] := by simp [ints]
theorem opn_len (x : List Int) : (opn x).length ≤ x.length := oi_len x x.length
theorem openS_ev (x : List Int) (hl : x.length ≤ 16) : Ev (fun k => spec_l02Open.f k x) (ints (opn x)) := by
  unfold spec_l02Open.f
  have key : ∀ (d i : Nat), x.length - i = d → i ≤ x.length → Ev (fun k => spec_l02Open.l0 k x (ints (oi x i)) (i : Int)) (ints (opn x)) := by
    intro d
    induction d with
    | zero =>
      intro i hd hi
      have : i = x.length := by omega
      subst this
      refine Ev.step (fun k => by simp only [spec_l02Open.l0]; rfl) (ev_neg (by omega) (Ev.now _))
    | succ d ih =>
      intro i hd hi
      have h2 := ih (i + 1) (by omega) (by omega)
      have hlen := oi_len x i
      rw [oi_step] at h2
      refine Ev.step (fun k => by simp only [spec_l02Open.l0]; rfl) (ev_pos (by omega) (ev_pos (by omega) ?_))
      rw [wrap_up (n := 16) (by omega) (by omega), show rd x (i : Int) = g x i from rfl]
      by_cases h : g x i = 0
      · rw [if_pos h] at h2; exact ev_pos h h2
      · rw [if_neg h, ints_snoc] at h2
        exact ev_neg h (ev_pos (by rw [ints_len]; omega) h2)
  exact key x.length 0 (by omega) (by omega)
theorem openI_ev (x : List Int) (hl : x.length ≤ 16) (R : List Int × List Int × List Int × Int) (hend : Ev (fun k => impl_partingOf.l0 k x x (x.length : Int) (x.length : Int) (ints (opn x))) R) : Ev (fun k => impl_partingOf.l0 k x x (x.length : Int) 0 ([] : List Int)) R := by
  have key : ∀ (d i : Nat), x.length - i = d → i ≤ x.length → Ev (fun k => impl_partingOf.l0 k x x (x.length : Int) (i : Int) (ints (oi x i))) R := by
    intro d
    induction d with
    | zero =>
      intro i hd hi
      have : i = x.length := by omega
      subst this
      exact hend
    | succ d ih =>
      intro i hd hi
      have h2 := ih (i + 1) (by omega) (by omega)
      have hlen := oi_len x i
      rw [oi_step] at h2
      refine Ev.step (fun k => by simp only [impl_partingOf.l0]; rfl) (ev_pos (by omega) (ev_pos (by omega) (ev_pos (by omega) ?_)))
      rw [wrap_up (n := 16) (by omega) (by omega), show rd x (i : Int) = g x i from rfl]
      by_cases h : g x i = 0
      · rw [if_pos h] at h2; exact ev_pos h h2
      · rw [if_neg h, ints_snoc] at h2
        exact ev_neg h (ev_pos (by rw [ints_len]; omega) h2)
  exact key x.length 0 (by omega) (by omega)
def cur (s p : Nat) : List Nat := if 0 < p then p :: subs s p else []
theorem cur_pos {s p : Nat} (h : 0 < p) : cur s p = p :: cur s (nx p s) := by
  unfold cur
  rw [if_pos h, subs, dif_pos h]
theorem cur_subs {s : Nat} (h : 0 < s) : subs s s = cur s (nx s s) := by
  rw [subs, dif_pos h]; rfl
theorem best_cons (c : Nat → Bool) (v : Nat → Int) (m : Int) (p : Nat) (l : List Nat) : best c v m (p :: l) = best c v (if c p = true then max m (v p) else m) l := rfl
theorem nx_and (p s : Nat) (hp : 0 < p) (h1 : p < 1048576) (h2 : s < 1048576) : Go.bits .and .i64 (wrap64 ((p : Int) - 1)) (s : Int) = ((nx p s : Nat) : Int) := by
  rw [wrap_id (by omega) (by omega), show (p : Int) - 1 = ((p - 1 : Nat) : Int) by omega, and_n _ _ (by omega) h2]
  rfl
theorem mx_max (a b : Int) : mx a b = max a b := by
  unfold mx; split <;> omega
theorem l2_ev (x vs : List Int) (N s : Nat) (R : List Int × List Int × List Int × Int) (who : List Int) (hs : s < N) (hN : N ≤ 1024) :
    ∀ (d p : Nat) (m : Int), p < d → Sb p s → p < s → 1 ≤ m → m ≤ s →
    Ev (fun k => impl_partingOf.l1 k x (N : Int) ((s + 1 : Nat) : Int) who (ftab (FS vs) N (s + 1)) ((ftab (FB vs) N s).set s (best (fun q => decide (sm vs q = 0)) (fun q => 1 + B vs (s - q)) m (cur s p)))) R →
    Ev (fun k => impl_partingOf.l2 k x (N : Int) (s : Int) (p : Int) who (ftab (FS vs) N (s + 1)) ((ftab (FB vs) N s).set s m)) R
  | 0, p, m, hd, _, _, _, _, _ => by omega
  | d + 1, p, m, hd, hp, hps, h1, h2, hend => by
    have lS := ft_len (FS vs) (show s + 1 ≤ N by omega)
    have lB := ft_len (FB vs) (show s ≤ N by omega)
    by_cases h0 : 0 < p
    · have hn := nx_lt (s := s) h0
      have hns : Sb (nx p s) s := Sb_and _ _
      have hb := B_bd vs (s + 1) (s - p) (by omega)
      rw [cur_pos h0, best_cons] at hend
      refine Ev.step (fun k => by simp only [impl_partingOf.l2]; rfl) (ev_pos (by omega) (ev_pos (by omega) (ev_pos (by rw [lS]; omega) ?_)))
      rw [ft_rd (FS vs) (show p < s + 1 by omega), FS_val, nx_and p s h0 (by omega) (by omega), andNot_n s p hp (by omega)]
      by_cases hz : sm vs p = 0
      · rw [decide_eq_true hz, if_pos rfl] at hend
        refine ev_pos hz (ev_pos (by omega) (ev_pos (by rw [List.length_set, lB]; omega) (ev_pos (by omega) (ev_pos (by rw [List.length_set, lB]; omega) ?_))))
        rw [rd_set_eq _ _ _ (by omega), rd_set_ne _ _ _ _ (by omega), ft_rd (FB vs) (show s - p < s by omega), show val (FB vs) (s - p) = B vs (s - p) from rfl, wrap_id (by omega) (by omega), mx_max, Int.toNat_natCast, List.set_set]
        exact l2_ev x vs N s R who hs hN d (nx p s) _ (by omega) hns (by omega) (by omega) (by omega) hend
      · rw [decide_eq_false hz, if_neg (by simp)] at hend
        exact ev_neg hz (l2_ev x vs N s R who hs hN d (nx p s) m (by omega) hns (by omega) h1 h2 hend)
    · have : p = 0 := by omega
      subst this
      refine Ev.step (fun k => by simp only [impl_partingOf.l2]; rfl) (ev_neg (by omega) ?_)
      rw [wrap_up (n := 1048576) (by omega) (by omega)]
      exact hend
theorem ints_rd (x : List Int) (k : Nat) (h : k < (opn x).length) : rd (ints (opn x)) (k : Int) = ((at_ x k : Nat) : Int) := by
  show (ints (opn x)).getD k 0 = _
  rw [at_get x k h]
  simp [ints, List.getD_eq_getElem?_getD, h]
theorem vals_at (x : List Int) (k : Nat) (h : k < (opn x).length) : (vals x).getD k 0 = g x (at_ x k) := by
  rw [at_get x k h]
  simp [vals, List.getD_eq_getElem?_getD, h]
theorem vals_len (x : List Int) : (vals x).length = (opn x).length := by simp [vals]
theorem vals_bd {x : List Int} (h : good x) : ∀ v ∈ vals x, -100000000 ≤ v ∧ v ≤ 100000000 := by
  intro v hv
  obtain ⟨j, hj, rfl⟩ := List.mem_map.1 hv
  have := (opn_mem x j).1 hj
  rw [g_lt x j this.1]
  exact h.2.2.1 _ (List.getElem_mem _)
theorem l1_ev (x : List Int) (h : good x) (hn : (opn x).length ≤ 10) : ∀ (d s : Nat), 2 ^ (opn x).length - s = d → 1 ≤ s → s ≤ 2 ^ (opn x).length →
    Ev (fun k => impl_partingOf.l1 k x ((2 ^ (opn x).length : Nat) : Int) (s : Int) (ints (opn x)) (ftab (FS (vals x)) (2 ^ (opn x).length) s) (ftab (FB (vals x)) (2 ^ (opn x).length) s))
      (ints (opn x), tab (FS (vals x)) (2 ^ (opn x).length), tab (FB (vals x)) (2 ^ (opn x).length), 0) := by
  have hN : 2 ^ (opn x).length ≤ 1024 := Nat.le_trans (Nat.pow_le_pow_right (by omega) hn) (by decide)
  have vl := vals_len x
  intro d
  induction d with
  | zero =>
    intro s hd h1 hs
    have : s = 2 ^ (opn x).length := by omega
    subst this
    refine Ev.step (fun k => by simp only [impl_partingOf.l1]; rfl) (ev_neg (by omega) (ev_eq (Ev.now _) ?_))
    unfold ftab
    rw [Nat.sub_self]
    simp
  | succ d ih =>
    intro s hd h1 hs
    have h2 := ih (s + 1) (by omega) (by omega) (by omega)
    generalize hNe : 2 ^ (opn x).length = N at *
    have lS := ft_len (FS (vals x)) (show s ≤ N by omega)
    have lB := ft_len (FB (vals x)) (show s ≤ N by omega)
    have lo := low_sum (vals x) 64 s (by omega) (by rw [vl, hNe]; omega) (by omega)
    rw [low_ctz, vl] at lo
    have hand := Nat.and_le_right (n := s) (m := s - 1)
    have b1 := sm_bd (vals x) (s &&& (s - 1)) (vals_bd h)
    have b2 := sm_bd (vals x) s (vals_bd h)
    rw [vl] at b1 b2
    have hctz : Lib.ctz 64 s = Lib.ctzFrom 64 s := by unfold Lib.ctz; rw [if_neg (by omega)]
    generalize hT : Lib.ctzFrom 64 s = T at lo hctz
    have ha := at_mem x T lo.1
    have ha := (opn_mem x _).1 ha
    have h16 := h.2.1
    refine Ev.step (fun k => by simp only [impl_partingOf.l1]; rfl) (ev_pos (by omega) ?_)
    refine ev_bind0 (a := (T : Int)) ?_ ?_
    · unfold bits_TrailingZeros.f
      rw [IntKind.wrap_u64, show (s : Int) % 18446744073709551616 = (s : Int) by omega, if_pos ⟨by omega, by omega⟩, Int.toNat_natCast, hctz]
    have eand : Go.bits .and .i64 (s : Int) (wrap64 ((s : Int) - 1)) = ((s &&& (s - 1) : Nat) : Int) := by
      rw [wrap_id (by omega) (by omega), show (s : Int) - 1 = ((s - 1 : Nat) : Int) by omega, and_n _ _ (by omega) (by omega)]
    rw [eand, ints_len, ints_rd x T lo.1, lS, nx_and s s (by omega) (by omega) (by omega)]
    refine ev_pos (by omega) (ev_pos (by omega) (ev_pos (by omega) (ev_pos (by omega) (ev_pos (by omega) (ev_pos (by omega) (ev_pos (by omega) (ev_pos (by omega) ?_)))))))
    rw [ft_rd (FS (vals x)) (show s &&& (s - 1) < s by omega), FS_val, show rd x ((at_ x T : Nat) : Int) = g x (at_ x T) from rfl, ← vals_at x T lo.1, ← lo.2, wrap_id (by omega) (by omega), Int.toNat_natCast]
    have eS : (ftab (FS (vals x)) N s).set s (sm (vals x) s) = ftab (FS (vals x)) N (s + 1) := by
      have := ft_set (FS_low (vals x)) (show s < N by omega)
      rw [FS_val] at this
      exact this
    rw [eS]
    refine ev_bind0 rfl ?_
    rw [wrap_up (n := 1048576) (by omega) (by omega)]
    by_cases hz : sm (vals x) s = 0
    · refine ev_pos hz (ev_pos (by rw [lB]; omega) ?_)
      have hnl := nx_lt (s := s) (p := s) (by omega)
      refine l2_ev x (vals x) N s _ _ (by omega) hN (s + 1) (nx s s) 1 (by omega) (Sb_and _ _) (by omega) (by omega) (by omega) ?_
      rw [← cur_subs (by omega), ← B_yes (vals x) (by omega) hz, show B (vals x) s = val (FB (vals x)) s from rfl, ft_set (FB_low (vals x)) (by omega)]
      exact h2
    · refine ev_neg hz ?_
      rw [ft_skip (FB_low (vals x)) (show s < N by omega) (B_no (vals x) hz)]
      exact h2
def partR (x : List Int) : List Int × List Int × List Int × Int :=
  if nets0 x = true then (if (opn x).length ≤ 10 then (ints (opn x), tab (FS (vals x)) (2 ^ (opn x).length), tab (FB (vals x)) (2 ^ (opn x).length), 0) else ([], [], [], 3)) else ([], [], [], 1)
theorem part_ev (x : List Int) (hl : x.length ≤ maxLen) : Ev (fun k => impl_partingOf.f k x) (partR x) := by
  unfold impl_partingOf.f partR
  refine Ev.bind (ZeroI_ev x hl) ?_
  by_cases h0 : nets0 x = true
  · refine ev_pos h0 ?_
    rw [if_pos h0]
    have hg := good_of h0
    have h16 := hg.2.1
    refine openI_ev x h16 _ ?_
    refine Ev.step (fun k => by simp only [impl_partingOf.l0]; rfl) (ev_neg (by omega) ?_)
    rw [ints_len]
    by_cases h10 : (opn x).length ≤ 10
    · rw [if_pos h10, shl_n _ h10, Int.toNat_natCast]
      have hN : 2 ^ (opn x).length ≤ 1024 := Nat.le_trans (Nat.pow_le_pow_right (by omega) h10) (by decide)
      have hp := Nat.two_pow_pos (opn x).length
      refine ev_neg (by omega) (ev_pos (by omega) (ev_pos (by omega) ?_))
      have := l1_ev x hg h10 _ 1 rfl (by omega) (by omega)
      rw [← ft_first (F := FS (vals x)) (by rw [FS_val]; exact sm_zero _) hp, ← ft_first (F := FB (vals x)) (B_zero _) hp] at this
      exact this
    · rw [if_neg h10]
      exact ev_pos (by omega) (Ev.now _)
  · rw [if_neg h0]
    exact ev_neg h0 (Ev.now _)
end Go.Proofs.YtcghnnhhgngddaaDoor.PuPartSettled
-- a text of this session, cut down for this claim
namespace Go.Proofs.YtcghnnhhgngddaaDoor.PuGroupsSettled
open Go.RowKit Go.Proofs.YtcghnnhhgngddaaDoor.MSettled Go.Proofs.YtcghnnhhgngddaaDoorW.PrintWords Go.Proofs.YtcghnnhhgngddaaDoorW.PrintLast Go.Proofs.YtcghnnhhgngddaaDoorW.PrintMore Go.Proofs.YtcghnnhhgngddaaDoor.Evs Go.Proofs.YtcghnnhhgngddaaDoor.PuSubSettled Go.Proofs.YtcghnnhhgngddaaDoor.PuOpnSettled Go.Proofs.YtcghnnhhgngddaaDoor.PuBitNSettled Go.Proofs.YtcghnnhhgngddaaDoor.PuTabsSettled Go.Proofs.YtcghnnhhgngddaaDoor.PuPartSettled
open Go.Proofs.YtcghnnhhgngddaaDoor.PuSettleSettled (g good g_lt)
set_option linter.unusedVariables false
set_option linter.unusedSimpArgs false
theorem l00Max_f (a b : Int) : spec_l00Max.f a b = some (max a b) := by
  unfold spec_l00Max.f
  split
  · rw [show max a b = a by omega]
  · rw [show max a b = b by omega]
theorem l3_ev (x o : List Int) (vs : List Int) (n N s : Nat) (R : List Int) (hs : s < N) (hN : N ≤ 1024) :
    ∀ (d p : Nat) (m : Int), p < d → Sb p s → p < s → 1 ≤ m → m ≤ s →
    Ev (fun k => spec_l02Groups.l1 k x o (n : Int) (N : Int) ((ftab (FG vs) N s).set s (best (fun q => decide (0 < G vs q ∧ 0 < G vs (s - q))) (fun q => G vs q + G vs (s - q)) m (cur s p))) ((s + 1 : Nat) : Int)) R →
    Ev (fun k => spec_l02Groups.l3 k x o (n : Int) (N : Int) ((ftab (FG vs) N s).set s m) (s : Int) (p : Int)) R
  | 0, p, m, hd, _, _, _, _, _ => by omega
  | d + 1, p, m, hd, hp, hps, h1, h2, hend => by
    have lG := ft_len (FG vs) (show s ≤ N by omega)
    by_cases h0 : 0 < p
    · have hn := nx_lt (s := s) h0
      have hns : Sb (nx p s) s := Sb_and _ _
      have hb1 := G_bd vs (s + 1) (s - p) (by omega)
      have hb2 := G_bd vs (s + 1) p (by omega)
      rw [cur_pos h0, best_cons] at hend
      refine Ev.step (fun k => by simp only [spec_l02Groups.l3]; rfl) (ev_pos (by omega) (ev_pos (by omega) (ev_pos (by rw [List.length_set, lG]; omega) ?_)))
      have es : wrap64 ((s : Int) - (p : Int)) = ((s - p : Nat) : Int) := by rw [wrap_id (by omega) (by omega)]; omega
      rw [rd_set_ne _ _ _ _ (by omega), ft_rd (FG vs) (show p < s by omega), show val (FG vs) p = G vs p from rfl, nx_and p s h0 (by omega) (by omega), es]
      have next : ∀ m' : Int, 1 ≤ m' → m' ≤ s → Ev (fun k => spec_l02Groups.l1 k x o (n : Int) (N : Int) ((ftab (FG vs) N s).set s (best (fun q => decide (0 < G vs q ∧ 0 < G vs (s - q))) (fun q => G vs q + G vs (s - q)) m' (cur s (nx p s)))) ((s + 1 : Nat) : Int)) R →
          Ev (fun k => spec_l02Groups.l3 k x o (n : Int) (N : Int) ((ftab (FG vs) N s).set s m') (s : Int) ((nx p s : Nat) : Int)) R := fun m' a b c => l3_ev x o vs n N s R hs hN d (nx p s) m' (by omega) hns (by omega) a b c
      by_cases hz : 0 < G vs p
      · refine ev_pos (by omega) (ev_pos (by omega) (ev_pos (by rw [List.length_set, lG]; omega) ?_))
        rw [rd_set_ne _ _ _ _ (by omega), ft_rd (FG vs) (show s - p < s by omega), show val (FG vs) (s - p) = G vs (s - p) from rfl]
        by_cases hz2 : 0 < G vs (s - p)
        · rw [decide_eq_true ⟨hz, hz2⟩, if_pos rfl] at hend
          refine ev_pos (by omega) (ev_pos (by omega) (ev_pos (by rw [List.length_set, lG]; omega) ?_))
          rw [rd_set_eq _ _ _ (by omega), l00Max_f, wrap_id (by omega) (by omega)]
          refine ev_bind0 rfl ?_
          rw [Int.toNat_natCast, List.set_set]
          exact next _ (by omega) (by omega) hend
        · rw [decide_eq_false (fun h => hz2 h.2), if_neg (by simp)] at hend
          exact ev_neg (by omega) (next m h1 h2 hend)
      · rw [decide_eq_false (fun h => hz h.1), if_neg (by simp)] at hend
        exact ev_neg (by omega) (next m h1 h2 hend)
    · have : p = 0 := by omega
      subst this
      refine Ev.step (fun k => by simp only [spec_l02Groups.l3]; rfl) (ev_neg (by omega) ?_)
      rw [wrap_up (n := 1048576) (by omega) (by omega)]
      exact hend
theorem gl2_ev (x : List Int) (h : good x) (hn : (opn x).length ≤ 10) (N s : Nat) (T R : List Int) (hend : Ev (fun k => spec_l02Groups.l2 k x (ints (opn x)) ((opn x).length : Int) (N : Int) T (s : Int) (sm (vals x) s) ((opn x).length : Int)) R) :
    Ev (fun k => spec_l02Groups.l2 k x (ints (opn x)) ((opn x).length : Int) (N : Int) T (s : Int) 0 0) R := by
  have vl := vals_len x
  have h16 := h.2.1
  have key : ∀ (d i : Nat), (opn x).length - i = d → i ≤ (opn x).length → Ev (fun k => spec_l02Groups.l2 k x (ints (opn x)) ((opn x).length : Int) (N : Int) T (s : Int) (sm ((vals x).take i) s) (i : Int)) R := by
    intro d
    induction d with
    | zero =>
      intro i hd hi
      have : i = (opn x).length := by omega
      subst this
      rw [List.take_of_length_le (by omega)]
      exact hend
    | succ d ih =>
      intro i hd hi
      have h2 := ih (i + 1) (by omega) (by omega)
      have hlt : i < (opn x).length := by omega
      rw [sm_take _ _ _ (by omega)] at h2
      have bd := sm_bd ((vals x).take i) s (fun v hv => vals_bd h v (List.mem_of_mem_take hv))
      have tl : ((vals x).take i).length ≤ 10 := by rw [List.length_take]; omega
      have ha := (opn_mem x _).1 (at_mem x i hlt)
      have hv : -100000000 ≤ g x (at_ x i) ∧ g x (at_ x i) ≤ 100000000 := by
        rw [g_lt x _ ha.1]; exact h.2.2.1 _ (List.getElem_mem _)
      have hu : IntKind.u64.wrap (i : Int) = (i : Int) := u64_n i (by omega)
      refine Ev.step (fun k => by simp only [spec_l02Groups.l2]; rfl) (ev_pos (by omega) ?_)
      rw [hu, wrap_up (n := 1048576) (by omega) (by omega)]
      refine ev_pos (by omega) ?_
      by_cases hb : s.testBit i = true
      · rw [if_pos hb, vals_at x i hlt] at h2
        refine ev_pos ((odd_n s i (by omega)).2 hb) (ev_pos (by omega) (ev_pos (by rw [ints_len]; omega) ?_))
        rw [ints_rd x i hlt]
        refine ev_pos (by omega) (ev_pos (by omega) ?_)
        rw [show rd x ((at_ x i : Nat) : Int) = g x (at_ x i) from rfl, wrap_id (by omega) (by omega)]
        exact h2
      · rw [if_neg hb, Int.add_zero] at h2
        exact ev_neg (fun z => hb ((odd_n s i (by omega)).1 z)) h2
  exact key _ 0 rfl (by omega)
theorem gl1_ev (x : List Int) (h : good x) (hn : (opn x).length ≤ 10) : ∀ (d s : Nat), 2 ^ (opn x).length - s = d → 1 ≤ s → s ≤ 2 ^ (opn x).length →
    Ev (fun k => spec_l02Groups.l1 k x (ints (opn x)) ((opn x).length : Int) ((2 ^ (opn x).length : Nat) : Int) (ftab (FG (vals x)) (2 ^ (opn x).length) s) (s : Int)) (tab (FG (vals x)) (2 ^ (opn x).length)) := by
  have hN : 2 ^ (opn x).length ≤ 1024 := Nat.le_trans (Nat.pow_le_pow_right (by omega) hn) (by decide)
  intro d
  induction d with
  | zero =>
    intro s hd h1 hs
    have : s = 2 ^ (opn x).length := by omega
    subst this
    refine Ev.step (fun k => by simp only [spec_l02Groups.l1]; rfl) (ev_neg (by omega) (ev_eq (Ev.now _) ?_))
    unfold ftab
    rw [Nat.sub_self]
    simp
  | succ d ih =>
    intro s hd h1 hs
    have h2 := ih (s + 1) (by omega) (by omega) (by omega)
    generalize hNe : 2 ^ (opn x).length = N at *
    have lG := ft_len (FG (vals x)) (show s ≤ N by omega)
    refine Ev.step (fun k => by simp only [spec_l02Groups.l1]; rfl) (ev_pos (by omega) (gl2_ev x h hn N s _ _ ?_))
    refine Ev.step (fun k => by simp only [spec_l02Groups.l2]; rfl) (ev_neg (by omega) (ev_pos (by omega) (ev_pos (by rw [lG]; omega) (ev_bind0 rfl ?_))))
    rw [Int.toNat_natCast, nx_and s s (by omega) (by omega) (by omega)]
    by_cases hz : sm (vals x) s = 0
    · refine ev_pos hz ?_
      have hnl := nx_lt (s := s) (p := s) (by omega)
      rw [List.set_set]
      refine l3_ev x _ (vals x) (opn x).length N s _ (by omega) hN (s + 1) (nx s s) 1 (by omega) (Sb_and _ _) (by omega) (by omega) (by omega) ?_
      rw [← cur_subs (by omega), ← G_yes (vals x) (by omega) hz, show G (vals x) s = val (FG (vals x)) s from rfl, ft_set (FG_low (vals x)) (by omega)]
      exact h2
    · refine ev_neg hz ?_
      rw [wrap_up (n := 1048576) (by omega) (by omega)]
      have e : val (FG (vals x)) s = -1 := G_no (vals x) hz
      have := ft_set (FG_low (vals x)) (show s < N by omega)
      rw [e] at this
      rw [this]
      exact h2
theorem groups_ev (x : List Int) (h : good x) (hn : (opn x).length ≤ 10) : Ev (fun k => spec_l02Groups.f k x (ints (opn x))) (tab (FG (vals x)) (2 ^ (opn x).length)) := by
  have hN : 2 ^ (opn x).length ≤ 1024 := Nat.le_trans (Nat.pow_le_pow_right (by omega) hn) (by decide)
  unfold spec_l02Groups.f
  rw [ints_len]
  have key : ∀ (d i : Nat), (opn x).length - i = d → i ≤ (opn x).length → Ev (fun k => spec_l02Groups.l0 k x (ints (opn x)) ((opn x).length : Int) ((2 ^ i : Nat) : Int) (i : Int)) (tab (FG (vals x)) (2 ^ (opn x).length)) := by
    intro d
    induction d with
    | zero =>
      intro i hd hi
      have : i = (opn x).length := by omega
      subst this
      have hp := Nat.two_pow_pos (opn x).length
      refine Ev.step (fun k => by simp only [spec_l02Groups.l0]; rfl) (ev_neg (by omega) (ev_pos (by omega) (ev_pos (by omega) ?_)))
      rw [Int.toNat_natCast, ft_first (F := FG (vals x)) (G_zero _) hp]
      exact gl1_ev x h hn _ 1 rfl (by omega) (by omega)
    | succ d ih =>
      intro i hd hi
      have h2 := ih (i + 1) (by omega) (by omega)
      have hp : 2 ^ i ≤ 1024 := Nat.le_trans (Nat.pow_le_pow_right (by omega) (by omega)) hN
      refine Ev.step (fun k => by simp only [spec_l02Groups.l0]; rfl) (ev_pos (by omega) ?_)
      have e2 : wrap64 (2 * ((2 ^ i : Nat) : Int)) = ((2 ^ (i + 1) : Nat) : Int) := by
        rw [Nat.pow_succ]
        generalize 2 ^ i = q at hp ⊢
        rw [wrap_id (by omega) (by omega)]
        omega
      rw [wrap_up (n := 1048576) (by omega) (by omega), e2]
      exact h2
  exact key _ 0 rfl (by omega)
end Go.Proofs.YtcghnnhhgngddaaDoor.PuGroupsSettled
-- a text of this session, cut down for this claim
namespace Go.Proofs.YtcghnnhhgngddaaDoor.PuMemsSettled
open Go.RowKit Go.Proofs.YtcghnnhhgngddaaDoor.MSettled Go.Proofs.YtcghnnhhgngddaaDoorW.PrintWords Go.Proofs.YtcghnnhhgngddaaDoorW.PrintLast Go.Proofs.YtcghnnhhgngddaaDoorW.PrintMore Go.Proofs.YtcghnnhhgngddaaDoor.Evs Go.Proofs.YtcghnnhhgngddaaDoor.PuSubSettled Go.Proofs.YtcghnnhhgngddaaDoor.PuOpnSettled Go.Proofs.YtcghnnhhgngddaaDoor.PuBitNSettled Go.Proofs.YtcghnnhhgngddaaDoor.PuTabsSettled Go.Proofs.YtcghnnhhgngddaaDoor.PuPartSettled
open Go.Proofs.YtcghnnhhgngddaaDoor.PuSettleSettled (g good g_lt)
set_option linter.unusedVariables false
set_option linter.unusedSimpArgs false
theorem mem_step (s i : Nat) : mem (i + 1) s = if s.testBit i = true then mem i s ++ [i] else mem i s := by
  unfold mem
  rw [List.range_succ, List.filter_append, List.filter_cons, List.filter_nil]
  split
  · rfl
  · rw [List.append_nil]
theorem bit_small {s i : Nat} (h : s < 2 ^ i) {j : Nat} (hj : i ≤ j) : s.testBit j = false := Nat.testBit_lt_two_pow (Nat.lt_of_lt_of_le h (Nat.pow_le_pow_right (by omega) hj))
theorem mem_more {s i : Nat} (h : s < 2 ^ i) : ∀ d, mem (i + d) s = mem i s
  | 0 => rfl
  | d + 1 => by
    rw [show i + (d + 1) = (i + d) + 1 by omega, mem_step, if_neg (by rw [bit_small h (by omega)]; decide), mem_more h d]
theorem mem_len (n s : Nat) : (mem n s).length ≤ n := by
  have := List.length_filter_le (fun i => s.testBit i) (List.range n)
  simpa [mem] using this
theorem members_ev (n s : Nat) (hn : n ≤ 10) (hs : s < 2 ^ n) : Ev (fun k => impl_members.f k (s : Int)) (ints (mem n s)) := by
  have hN : 2 ^ n ≤ 1024 := Nat.le_trans (Nat.pow_le_pow_right (by omega) hn) (by decide)
  unfold impl_members.f
  have key : ∀ (d i : Nat), n - i = d → i ≤ n → Ev (fun k => impl_members.l0 k (s : Int) (ints (mem i s)) (i : Int)) (ints (mem n s)) := by
    intro d
    induction d with
    | zero =>
      intro i hd hi
      have : i = n := by omega
      subst this
      refine Ev.step (fun k => by simp only [impl_members.l0]; rfl) (ev_pos (by omega) ?_)
      rw [shr_n s i (by omega), Nat.div_eq_of_lt hs]
      exact ev_neg (by omega) (Ev.now _)
    | succ d ih =>
      intro i hd hi
      have h2 := ih (i + 1) (by omega) (by omega)
      have hl := mem_len i s
      have hdl : s / 2 ^ i ≤ s := Nat.div_le_self _ _
      refine Ev.step (fun k => by simp only [impl_members.l0]; rfl) (ev_pos (by omega) ?_)
      rw [shr_n s i (by omega), show (1 : Int) = ((1 : Nat) : Int) from rfl, and_n _ _ (by omega) (by omega), nat_mask1, show ((i : Int) + ((1 : Nat) : Int)) = (i : Int) + 1 from rfl, wrap_up (n := 1048576) (by omega) (by omega)]
      generalize hq : s / 2 ^ i = q at hdl ⊢
      by_cases h0 : q = 0
      · rw [h0] at hq ⊢
        have hlt : s < 2 ^ i := by
          rcases Nat.div_eq_zero_iff.1 hq with e | e
          · have := Nat.two_pow_pos i; omega
          · exact e
        refine ev_neg (by omega) (ev_eq (Ev.now _) ?_)
        have := mem_more hlt (n - i)
        rw [show i + (n - i) = n by omega] at this
        rw [this]
      · refine ev_pos (by omega) ?_
        rw [mem_step] at h2
        by_cases hb : s.testBit i = true
        · rw [if_pos hb, ints_snoc] at h2
          rw [Nat.testBit_eq_decide_div_mod_eq, decide_eq_true_iff, hq] at hb
          exact ev_pos (by omega) (ev_pos (by rw [ints_len]; omega) h2)
        · rw [if_neg hb] at h2
          rw [Nat.testBit_eq_decide_div_mod_eq, decide_eq_true_iff, hq] at hb
          exact ev_neg (by omega) h2
  exact key n 0 (by omega) (by omega)
theorem membersS_ev (x : List Int) (s : Nat) (hn : (opn x).length ≤ 10) : Ev (fun k => spec_l02Members.f k (ints (opn x)) (s : Int)) (ints (ppl x s)) := by
  unfold spec_l02Members.f
  have key : ∀ (d i : Nat), (opn x).length - i = d → i ≤ (opn x).length → Ev (fun k => spec_l02Members.l0 k (ints (opn x)) (s : Int) (ints ((mem i s).map (at_ x))) (i : Int)) (ints (ppl x s)) := by
    intro d
    induction d with
    | zero =>
      intro i hd hi
      have : i = (opn x).length := by omega
      subst this
      refine Ev.step (fun k => by simp only [spec_l02Members.l0]; rfl) (ev_neg (by rw [ints_len]; omega) (Ev.now _))
    | succ d ih =>
      intro i hd hi
      have h2 := ih (i + 1) (by omega) (by omega)
      have hl := mem_len i s
      refine Ev.step (fun k => by simp only [spec_l02Members.l0]; rfl) (ev_pos (by rw [ints_len]; omega) ?_)
      rw [u64_n i (by omega), wrap_up (n := 1048576) (by omega) (by omega)]
      refine ev_pos (by omega) ?_
      rw [mem_step] at h2
      by_cases hb : s.testBit i = true
      · rw [if_pos hb, List.map_append, List.map_cons, List.map_nil, ints_snoc, ← ints_rd x i (by omega)] at h2
        exact ev_pos ((odd_n s i (by omega)).2 hb) (ev_pos (by omega) (ev_pos (by rw [ints_len, List.length_map]; omega) h2))
      · rw [if_neg hb] at h2
        exact ev_neg (fun z => hb ((odd_n s i (by omega)).1 z)) h2
  exact key _ 0 rfl (by omega)
theorem rd_ints (l : List Nat) (i : Nat) (h : i < l.length) : rd (ints l) (i : Int) = ((l[i] : Nat) : Int) := by
  show (ints l).getD i 0 = _
  simp [ints, List.getD_eq_getElem?_getD, h]
theorem lex_step (a b : List Nat) (i : Nat) (ha : i < a.length) (hb : i < b.length) : lexLt (a.drop i) (b.drop i) = if a[i] = b[i] then lexLt (a.drop (i + 1)) (b.drop (i + 1)) else decide (a[i] < b[i]) := by
  rw [List.drop_eq_getElem_cons ha, List.drop_eq_getElem_cons hb]; rfl
theorem lex_end (a b : List Nat) (i : Nat) (h : i = a.length ∧ i ≤ b.length ∨ i = b.length ∧ i ≤ a.length) : lexLt (a.drop i) (b.drop i) = decide (a.length < b.length) := by
  rcases h with ⟨h, h2⟩ | ⟨h, h2⟩
  · subst h
    rw [List.drop_length]
    by_cases e : a.length < b.length
    · rw [List.drop_eq_getElem_cons e, decide_eq_true e]; rfl
    · rw [List.drop_of_length_le (by omega), decide_eq_false e]; rfl
  · subst h
    rw [List.drop_length, decide_eq_false (by omega)]
    cases a.drop b.length <;> rfl
theorem earlier_ev (a b : List Nat) (hla : a.length ≤ 1000) (hlb : b.length ≤ 1000) : Ev (fun k => spec_l02Earlier.f k (ints a) (ints b)) (lexLt a b) := by
  unfold spec_l02Earlier.f
  have key : ∀ (d i : Nat), a.length - i = d → i ≤ a.length → i ≤ b.length → Ev (fun k => spec_l02Earlier.l0 k (ints a) (ints b) (i : Int)) (lexLt (a.drop i) (b.drop i)) := by
    intro d
    induction d with
    | zero =>
      intro i hd hi hi2
      rw [lex_end a b i (Or.inl ⟨by omega, hi2⟩)]
      refine Ev.step (fun k => by simp only [spec_l02Earlier.l0]; rfl) ?_
      refine ev_neg (by rw [ints_len]; omega) ?_
      refine Ev.step (fun k => by simp only [spec_l02Earlier.j1]; rfl) ?_
      refine ev_neg (by decide) (ev_eq (Ev.now _) ?_)
      rw [ints_len, ints_len]
      exact decide_eq_decide.2 ⟨fun h => by omega, fun h => by omega⟩
    | succ d ih =>
      intro i hd hi hi2
      refine Ev.step (fun k => by simp only [spec_l02Earlier.l0]; rfl) ?_
      refine ev_pos (by rw [ints_len]; omega) ?_
      refine Ev.step (fun k => by simp only [spec_l02Earlier.j1]; rfl) ?_
      by_cases hb : i < b.length
      · rw [lex_step a b i (by omega) hb]
        refine ev_pos (decide_eq_true (by rw [ints_len]; omega)) (ev_pos (by omega) (ev_pos (by rw [ints_len]; omega) (ev_pos (by rw [ints_len]; omega) ?_)))
        rw [rd_ints a i (by omega), rd_ints b i hb, wrap_up (n := 1048576) (by omega) (by omega)]
        by_cases e : a[i] = b[i]
        · rw [if_pos e]
          exact ev_pos (by omega) (ih (i + 1) (by omega) (by omega) (by omega))
        · rw [if_neg e]
          refine ev_neg (by omega) (ev_eq (Ev.now _) ?_)
          exact decide_eq_decide.2 ⟨fun h => by omega, fun h => by omega⟩
      · rw [lex_end a b i (Or.inr ⟨by omega, hi⟩)]
        refine ev_neg (by rw [decide_eq_false (by rw [ints_len]; omega)]; decide) (ev_eq (Ev.now _) ?_)
        rw [ints_len, ints_len]
        exact decide_eq_decide.2 ⟨fun h => by omega, fun h => by omega⟩
  exact key a.length 0 (by omega) (by omega) (by omega)
theorem cmp_f (a b : Int) : cmp_Compare_int.f a b = some (if a < b then -1 else if a > b then 1 else 0) := by
  unfold cmp_Compare_int.f cmp_isNaN_int.f
  simp only [bne_self_eq_false, Option.bind_some]
  rw [if_neg (by decide), if_neg (by decide)]
  split
  · rfl
  · split <;> rfl
theorem compare_ev (a b : List Nat) (hla : a.length ≤ 1000) (hlb : b.length ≤ 1000) : ∃ r, Ev (fun k => slices_Compare_int_int.f k (ints a) (ints b)) r ∧ (r < 0 ↔ lexLt a b = true) := by
  unfold slices_Compare_int_int.f
  have key : ∀ (d i : Nat), a.length - i = d → i ≤ a.length → i ≤ b.length → ∃ r, Ev (fun k => slices_Compare_int_int.l0 k (ints a) (ints b) (ints a) ((ints a).length : Int) (i : Int)) r ∧ (r < 0 ↔ lexLt (a.drop i) (b.drop i) = true) := by
    intro d
    induction d with
    | zero =>
      intro i hd hi hi2
      rw [lex_end a b i (Or.inl ⟨by omega, hi2⟩)]
      by_cases hlt : a.length < b.length
      · refine ⟨-1, ?_, by simp [hlt]⟩
        exact Ev.step (fun k => by simp only [slices_Compare_int_int.l0]; rfl) (ev_neg (by rw [ints_len]; omega) (ev_pos (by rw [ints_len, ints_len]; omega) (Ev.now _)))
      · refine ⟨0, ?_, by simp [hlt]⟩
        exact Ev.step (fun k => by simp only [slices_Compare_int_int.l0]; rfl) (ev_neg (by rw [ints_len]; omega) (ev_neg (by rw [ints_len, ints_len]; omega) (Ev.now _)))
    | succ d ih =>
      intro i hd hi hi2
      by_cases hb : i < b.length
      · rw [lex_step a b i (by omega) hb]
        by_cases e : a[i] = b[i]
        · rw [if_pos e]
          obtain ⟨r, h1, h2⟩ := ih (i + 1) (by omega) (by omega) (by omega)
          refine ⟨r, ?_, h2⟩
          refine Ev.step (fun k => by simp only [slices_Compare_int_int.l0]; rfl) (ev_pos (by rw [ints_len]; omega) (ev_pos (by omega) (ev_pos (by rw [ints_len]; omega) (ev_neg (by rw [ints_len]; omega) (ev_pos (by rw [ints_len]; omega) ?_)))))
          rw [rd_ints a i (by omega), rd_ints b i hb, wrap_up (n := 1048576) (by omega) (by omega), cmp_f, if_neg (by omega), if_neg (by omega)]
          exact ev_bind0 rfl (ev_pos rfl h1)
        · rw [if_neg e]
          by_cases hlt : a[i] < b[i]
          · refine ⟨-1, ?_, by simp [hlt]⟩
            refine Ev.step (fun k => by simp only [slices_Compare_int_int.l0]; rfl) (ev_pos (by rw [ints_len]; omega) (ev_pos (by omega) (ev_pos (by rw [ints_len]; omega) (ev_neg (by rw [ints_len]; omega) (ev_pos (by rw [ints_len]; omega) ?_)))))
            rw [rd_ints a i (by omega), rd_ints b i hb, cmp_f, if_pos (by omega)]
            exact ev_bind0 rfl (ev_neg (by decide) (Ev.now _))
          · refine ⟨1, ?_, by simp [hlt]⟩
            refine Ev.step (fun k => by simp only [slices_Compare_int_int.l0]; rfl) (ev_pos (by rw [ints_len]; omega) (ev_pos (by omega) (ev_pos (by rw [ints_len]; omega) (ev_neg (by rw [ints_len]; omega) (ev_pos (by rw [ints_len]; omega) ?_)))))
            rw [rd_ints a i (by omega), rd_ints b i hb, cmp_f, if_neg (by omega), if_pos (by omega)]
            exact ev_bind0 rfl (ev_neg (by decide) (Ev.now _))
      · rw [lex_end a b i (Or.inr ⟨by omega, hi⟩)]
        refine ⟨1, ?_, by simp; omega⟩
        exact Ev.step (fun k => by simp only [slices_Compare_int_int.l0]; rfl) (ev_pos (by rw [ints_len]; omega) (ev_pos (by omega) (ev_pos (by rw [ints_len]; omega) (ev_pos (by rw [ints_len]; omega) (Ev.now _)))))
  exact key a.length 0 (by omega) (by omega) (by omega)
theorem lex_map (f : Nat → Nat) : ∀ (a b : List Nat), (∀ i ∈ a, ∀ j ∈ b, (f i = f j ↔ i = j) ∧ (f i < f j ↔ i < j)) → lexLt (a.map f) (b.map f) = lexLt a b
  | _, [], _ => by
    rename_i a _
    cases a <;> rfl
  | [], _ :: _, _ => rfl
  | i :: a, j :: b, h => by
    have hij := h i List.mem_cons_self j List.mem_cons_self
    show (if f i = f j then lexLt (a.map f) (b.map f) else decide (f i < f j)) = (if i = j then lexLt a b else decide (i < j))
    rw [lex_map f a b (fun k hk l hl => h k (List.mem_cons_of_mem _ hk) l (List.mem_cons_of_mem _ hl))]
    by_cases e : i = j
    · rw [if_pos e, if_pos (hij.1.2 e)]
    · rw [if_neg e, if_neg (fun z => e (hij.1.1 z))]
      exact decide_eq_decide.2 hij.2
theorem lex_ppl (x : List Int) (p q : Nat) : lexLt (ppl x p) (ppl x q) = lexLt (mem (opn x).length p) (mem (opn x).length q) := by
  refine lex_map (at_ x) _ _ (fun i hi j hj => ?_)
  have h1 := ((mem_mem _ _ _).1 hi).1
  have h2 := ((mem_mem _ _ _).1 hj).1
  rcases Nat.lt_trichotomy i j with h | h | h
  · have := at_lt x i j h2 h; omega
  · subst h; simp
  · have := at_lt x j i h1 h; omega
theorem ppl_len (x : List Int) (p : Nat) : (ppl x p).length ≤ (opn x).length := by
  have := mem_len (opn x).length p
  simpa [ppl] using this
theorem neg_and (s : Nat) (h0 : 0 < s) (h : s < 1048576) : Go.bits .and .i64 (s : Int) (wrap64 (-(s : Int))) = ((2 ^ low1 64 s : Nat) : Int) := by
  have hl := (Lib.lowest_bit 64 s (by omega) (by omega)).1
  have hc : Lib.ctz 64 s = low1 64 s := by unfold Lib.ctz; rw [if_neg (by omega), low_ctz]
  rw [hc] at hl
  have hb : s &&& (2 ^ 64 - s) < 2 ^ 20 := by
    have := Nat.and_le_left (n := s) (m := 2 ^ 64 - s)
    omega
  have e1 : (BitVec.ofInt 64 (-(s : Int))).toNat = 2 ^ 64 - s := by
    rw [BitVec.toNat_ofInt]; omega
  rw [wrap_id (by omega) (by omega)]
  show IntKind.i64.wrap ((BitVec.ofInt 64 (s : Int) &&& BitVec.ofInt 64 (-(s : Int))).toNat : Int) = _
  rw [BitVec.toNat_and, ofInt_u64 s (by omega), e1, i64_w, wrap_id (by omega) (by omega), hl]
theorem and_low (p c : Nat) (hp : p < 1048576) (hc : 2 ^ c < 1048576) : Go.bits .and .i64 (p : Int) ((2 ^ c : Nat) : Int) = 0 ↔ p.testBit c = false := by
  rw [and_n p _ hp hc, nat_bit, Nat.testBit_eq_decide_div_mod_eq, decide_eq_false_iff_not]
  have h2 := Nat.two_pow_pos c
  have e := Nat.mod_two_eq_zero_or_one (p / 2 ^ c)
  generalize p / 2 ^ c % 2 = m at e ⊢
  generalize 2 ^ c = q at h2 ⊢
  rcases e with e | e
  · subst e; simp
  · subst e; rw [Nat.one_mul]; omega
end Go.Proofs.YtcghnnhhgngddaaDoor.PuMemsSettled
-- a text of this session, cut down for this claim
namespace Go.Proofs.YtcghnnhhgngddaaDoor.PuZSumSettled
open Go.RowKit Go.Proofs.YtcghnnhhgngddaaDoor.MSettled Go.Proofs.YtcghnnhhgngddaaDoorW.PrintWords Go.Proofs.YtcghnnhhgngddaaDoorW.PrintLast Go.Proofs.YtcghnnhhgngddaaDoor.Evs Go.Proofs.YtcghnnhhgngddaaDoor.PuSubSettled Go.Proofs.YtcghnnhhgngddaaDoor.PuOpnSettled Go.Proofs.YtcghnnhhgngddaaDoor.PuTabsSettled Go.Proofs.YtcghnnhhgngddaaDoor.PuPartSettled
open Go.Proofs.YtcghnnhhgngddaaDoor.PuSettleSettled (g good good_of g_lt)
set_option linter.unusedVariables false
set_option linter.unusedSimpArgs false
theorem map_range_sum (x : List Int) : ((List.range x.length).map (g x)).sum = x.sum := by
  have : (List.range x.length).map (g x) = x := by
    apply List.ext_getElem
    · simp
    · intro i h1 h2
      simp [g, List.getD_eq_getElem?_getD, h2]
  rw [this]
theorem filter_sum (f : Nat → Int) : ∀ l : List Nat, ((l.filter fun i => decide (f i ≠ 0)).map f).sum = (l.map f).sum
  | [] => rfl
  | i :: l => by
    rw [List.filter_cons, List.map_cons, List.sum_cons]
    by_cases h : f i = 0
    · rw [if_neg (by rw [h]; decide), filter_sum f l, h]; omega
    · rw [if_pos (decide_eq_true h), List.map_cons, List.sum_cons, filter_sum f l]
theorem vals_sum (x : List Int) : (vals x).sum = x.sum := by
  rw [← map_range_sum x]
  exact filter_sum (g x) _
theorem all_zero {x : List Int} (h : good x) : sm (vals x) (2 ^ (opn x).length - 1) = 0 := by
  have e := sm_all (vals x)
  rw [vals_len, vals_sum, h.2.2.2] at e
  exact e
end Go.Proofs.YtcghnnhhgngddaaDoor.PuZSumSettled
-- a text of this session, cut down for this claim
namespace Go.Proofs.YtcghnnhhgngddaaDoor.PuFewEvSettled
open Go.RowKit Go.Proofs.YtcghnnhhgngddaaDoor.MSettled Go.Proofs.YtcghnnhhgngddaaDoorW.PrintWords Go.Proofs.YtcghnnhhgngddaaDoorW.PrintLast Go.Proofs.YtcghnnhhgngddaaDoorW.PrintMore Go.Proofs.YtcghnnhhgngddaaDoor.Evs Go.Proofs.YtcghnnhhgngddaaDoor.PuDebtSettled Go.Proofs.YtcghnnhhgngddaaDoor.PuZeroSettled Go.Proofs.YtcghnnhhgngddaaDoor.PuSubSettled Go.Proofs.YtcghnnhhgngddaaDoor.PuOpnSettled Go.Proofs.YtcghnnhhgngddaaDoor.PuSetBSettled Go.Proofs.YtcghnnhhgngddaaDoor.PuFewSettled Go.Proofs.YtcghnnhhgngddaaDoor.PuBitNSettled Go.Proofs.YtcghnnhhgngddaaDoor.PuTabsSettled Go.Proofs.YtcghnnhhgngddaaDoor.PuPartSettled Go.Proofs.YtcghnnhhgngddaaDoor.PuGroupsSettled Go.Proofs.YtcghnnhhgngddaaDoor.PuMemsSettled
open Go.Proofs.YtcghnnhhgngddaaDoor.PuSettleSettled (g good good_of g_lt settleL settle_len l02Settle_ev settleF_ev)
set_option linter.unusedVariables false
set_option linter.unusedSimpArgs false
theorem tab_rd (F : (Nat → Int) → Nat → Int) (N j : Nat) (h : j < N) : rd (tab F N) (j : Int) = val F j := tab_get F N j h
theorem firstS_ev (x : List Int) (hn : (opn x).length ≤ 10) (s : Nat) (h0 : 0 < s) (hs : s < 2 ^ (opn x).length) :
    Ev (fun k => spec_l02First.f k (ints (opn x)) (tab (FG (vals x)) (2 ^ (opn x).length)) (s : Int)) ((grp x s : Nat) : Int) := by
  have hN : 2 ^ (opn x).length ≤ 1024 := Nat.le_trans (Nat.pow_le_pow_right (by omega) hn) (by decide)
  have hlow : low1 (opn x).length s = low1 64 s := low_eq _ _ s h0 hs (by omega)
  have hbit := low_bit _ s h0 hs
  have hc : 2 ^ low1 64 s < 1048576 := by
    rw [← hlow]
    have := Nat.ge_two_pow_of_testBit hbit
    omega
  unfold spec_l02First.f
  rw [neg_and s h0 (by omega)]
  have tl := tab_len (FG (vals x)) (2 ^ (opn x).length)
  have key : ∀ (d p g0 : Nat), p < d → Sb p s → g0 ≤ s → Ev (fun k => spec_l02First.l0 k (ints (opn x)) (tab (FG (vals x)) (2 ^ (opn x).length)) (s : Int) ((2 ^ low1 64 s : Nat) : Int) (g0 : Int) (p : Int)) ((pick (cS (vals x) (low1 64 s) s) (opn x).length g0 (cur s p) : Nat) : Int) := by
    intro d
    induction d with
    | zero => intro p g0 hd; omega
    | succ d ih =>
      intro p g0 hd hp hg
      by_cases hp0 : 0 < p
      · have hps := Sb_le hp
        have hn' := nx_lt (s := s) hp0
        have hns : Sb (nx p s) s := Sb_and _ _
        have hb1 := G_bd (vals x) (s + 1) s (by omega)
        rw [cur_pos hp0, pick_cons]
        have skip : cS (vals x) (low1 64 s) s p = false → Ev (fun k => spec_l02First.j1 k (ints (opn x)) (tab (FG (vals x)) (2 ^ (opn x).length)) (s : Int) ((2 ^ low1 64 s : Nat) : Int) (g0 : Int) (p : Int) true) ((pick (cS (vals x) (low1 64 s) s) (opn x).length (if cS (vals x) (low1 64 s) s p = true then (if g0 = 0 ∨ lexLt (mem (opn x).length p) (mem (opn x).length g0) = true then p else g0) else g0) (cur s (nx p s)) : Nat) : Int) := by
          intro hf
          rw [hf, if_neg (by decide)]
          refine Ev.step (fun k => by simp only [spec_l02First.j1]; rfl) ?_
          refine ev_pos (by first | rfl | trivial) ?_
          rw [nx_and p s hp0 (by omega) (by omega)]
          exact ih (nx p s) g0 (by omega) hns hg
        have take : cS (vals x) (low1 64 s) s p = true → Ev (fun k => spec_l02First.j1 k (ints (opn x)) (tab (FG (vals x)) (2 ^ (opn x).length)) (s : Int) ((2 ^ low1 64 s : Nat) : Int) (g0 : Int) (p : Int) false) ((pick (cS (vals x) (low1 64 s) s) (opn x).length (if cS (vals x) (low1 64 s) s p = true then (if g0 = 0 ∨ lexLt (mem (opn x).length p) (mem (opn x).length g0) = true then p else g0) else g0) (cur s (nx p s)) : Nat) : Int) := by
          intro hf
          rw [hf, if_pos rfl]
          refine Ev.step (fun k => by simp only [spec_l02First.j1]; rfl) (ev_neg (by decide) ?_)
          rw [nx_and p s hp0 (by omega) (by omega)]
          by_cases hg0 : g0 = 0
          · rw [if_pos (Or.inl hg0)]
            exact ev_pos (by omega) (ih (nx p s) p (by omega) hns hps)
          · have l1 := ppl_len x p
            have l2 := ppl_len x g0
            refine ev_neg (by omega) (Ev.bind (membersS_ev x p hn) (Ev.bind (membersS_ev x g0 hn) (Ev.bind (earlier_ev _ _ (by omega) (by omega)) ?_)))
            rw [lex_ppl]
            by_cases hl : lexLt (mem (opn x).length p) (mem (opn x).length g0) = true
            · rw [if_pos (Or.inr hl)]
              exact ev_pos hl (ih (nx p s) p (by omega) hns hps)
            · rw [if_neg (fun z => z.elim hg0 hl)]
              exact ev_neg hl (ih (nx p s) g0 (by omega) hns hg)
        refine Ev.step (fun k => by simp only [spec_l02First.l0]; rfl) (ev_pos (by omega) ?_)
        by_cases hb : p.testBit (low1 64 s) = true
        · refine ev_neg (fun z => by rw [(and_low p _ (by omega) hc).1 z] at hb; cases hb) ?_
          refine ev_pos (by omega) (ev_pos (by rw [tl]; omega) ?_)
          rw [tab_rd _ _ _ (by omega), show val (FG (vals x)) p = G (vals x) p from rfl]
          by_cases hG : G (vals x) p = 1
          · refine ev_pos hG ?_
            by_cases hps' : p = s
            · subst hps'
              refine ev_pos rfl (ev_pos (by omega) (ev_pos (by rw [tl]; omega) ?_))
              rw [tab_rd _ _ _ (by omega), show val (FG (vals x)) p = G (vals x) p from rfl, hG]
              refine take ?_
              unfold cS
              have hh : (if p = p then G (vals x) p = 1 else G (vals x) (p - p) = G (vals x) p - 1) := by rw [if_pos rfl]; exact hG
              rw [hb, decide_eq_true hG, decide_eq_true hh]; rfl
            · refine ev_neg (by omega) ?_
              have es : wrap64 ((s : Int) - (p : Int)) = ((s - p : Nat) : Int) := by rw [wrap_id (by omega) (by omega)]; omega
              rw [es]
              refine ev_pos (by omega) (ev_pos (by rw [tl]; omega) (ev_pos (by omega) (ev_pos (by rw [tl]; omega) ?_)))
              rw [tab_rd _ _ _ (by omega), tab_rd _ _ _ (by omega), show val (FG (vals x)) (s - p) = G (vals x) (s - p) from rfl, show val (FG (vals x)) s = G (vals x) s from rfl, wrap_id (by omega) (by omega)]
              by_cases he : G (vals x) (s - p) = G (vals x) s - 1
              · refine ev_pos he (take ?_)
                unfold cS
                have hh : (if p = s then G (vals x) s = 1 else G (vals x) (s - p) = G (vals x) s - 1) := by rw [if_neg hps']; exact he
                rw [hb, decide_eq_true hG, decide_eq_true hh]; rfl
              · refine ev_neg he (skip ?_)
                unfold cS
                have hh : ¬ (if p = s then G (vals x) s = 1 else G (vals x) (s - p) = G (vals x) s - 1) := by rw [if_neg hps']; exact he
                rw [hb, decide_eq_true hG, decide_eq_false hh]; rfl
          · refine ev_neg hG (skip ?_)
            unfold cS
            rw [hb, decide_eq_false hG]; rfl
        · refine ev_pos ((and_low p _ (by omega) hc).2 (Bool.eq_false_iff.mpr hb)) (skip ?_)
          unfold cS
          rw [Bool.eq_false_iff.mpr hb]; rfl
      · have : p = 0 := by omega
        subst this
        exact Ev.step (fun k => by simp only [spec_l02First.l0]; rfl) (ev_neg (by omega) (Ev.now _))
  have := key (s + 1) s 0 (by omega) (Sb_refl s) (by omega)
  unfold grp first
  rw [hlow]
  unfold cur at this
  rw [if_pos h0] at this
  exact this
theorem grp_pick (x : List Int) (s : Nat) (h0 : 0 < s) (hs : s < 2 ^ (opn x).length) (hz : sm (vals x) s = 0) (hn : (opn x).length ≤ 10) : pick (cI (vals x) (low1 64 s) s) (opn x).length 0 (cur s s) = grp x s := by
  have hN : 2 ^ (opn x).length ≤ 1024 := Nat.le_trans (Nat.pow_le_pow_right (by omega) hn) (by decide)
  have hlow : low1 (opn x).length s = low1 64 s := low_eq _ _ s h0 hs (by omega)
  unfold cur grp
  rw [if_pos h0, first_I (vals x) _ _ s hz h0, hlow]
theorem groupsI_ev (x : List Int) (h : good x) (hn : (opn x).length ≤ 10) : ∀ (m s : Nat) (out : List Int), s < m → s < 2 ^ (opn x).length → sm (vals x) s = 0 → out.length + s ≤ 100000 →
    Ev (fun k => impl_parting_groups.l0 k out (s : Int) (ints (opn x)) (tab (FS (vals x)) (2 ^ (opn x).length)) (tab (FB (vals x)) (2 ^ (opn x).length))) (out ++ ints (glF x m s))
  | 0, s, out, hm, _, _, _ => by omega
  | m + 1, s, out, hm, hs, hz, ho => by
    have hN : 2 ^ (opn x).length ≤ 1024 := Nat.le_trans (Nat.pow_le_pow_right (by omega) hn) (by decide)
    have tS := tab_len (FS (vals x)) (2 ^ (opn x).length)
    have tB := tab_len (FB (vals x)) (2 ^ (opn x).length)
    by_cases h0 : s = 0
    · subst h0
      refine Ev.step (fun k => by simp only [impl_parting_groups.l0]; rfl) (ev_neg (by omega) (ev_eq (Ev.now _) ?_))
      simp [glF, ints]
    · have hpos : 0 < s := by omega
      obtain ⟨g1, g2, g3, g4, g5, g6⟩ := grp_spec x s hpos hs hz
      have hlow : low1 (opn x).length s = low1 64 s := low_eq _ _ s hpos hs (by omega)
      have hbit := low_bit _ s hpos hs
      have hc : 2 ^ low1 64 s < 1048576 := by
        rw [← hlow]
        have := Nat.ge_two_pow_of_testBit hbit
        omega
      have rest := groupsI_ev x h hn m (s - grp x s) (out ++ [((grp x s : Nat) : Int)]) (by omega) (by omega) g4 (by rw [List.length_append]; simp only [List.length_cons, List.length_nil]; omega)
      have eq : out ++ ints (glF x (m + 1) s) = out ++ [((grp x s : Nat) : Int)] ++ ints (glF x m (s - grp x s)) := by
        simp only [glF]
        rw [if_neg h0]
        simp [ints]
      rw [eq]
      have key : ∀ (d p g0 : Nat), p < d → Sb p s → g0 ≤ s → pick (cI (vals x) (low1 64 s) s) (opn x).length g0 (cur s p) = grp x s →
          Ev (fun k => impl_parting_groups.l1 k out (s : Int) ((2 ^ low1 64 s : Nat) : Int) (g0 : Int) (p : Int) (ints (opn x)) (tab (FS (vals x)) (2 ^ (opn x).length)) (tab (FB (vals x)) (2 ^ (opn x).length))) (out ++ [((grp x s : Nat) : Int)] ++ ints (glF x m (s - grp x s))) := by
        intro d
        induction d with
        | zero => intro p g0 hd; omega
        | succ d ih =>
          intro p g0 hd hp hg hpk
          by_cases hp0 : 0 < p
          · have hps := Sb_le hp
            have hn' := nx_lt (s := s) hp0
            have hns : Sb (nx p s) s := Sb_and _ _
            rw [cur_pos hp0, pick_cons] at hpk
            have skip : cI (vals x) (low1 64 s) s p = false → Ev (fun k => impl_parting_groups.j2 k out (s : Int) ((2 ^ low1 64 s : Nat) : Int) (g0 : Int) (p : Int) true (ints (opn x)) (tab (FS (vals x)) (2 ^ (opn x).length)) (tab (FB (vals x)) (2 ^ (opn x).length))) (out ++ [((grp x s : Nat) : Int)] ++ ints (glF x m (s - grp x s))) := by
              intro hf
              rw [hf, if_neg (by decide)] at hpk
              refine Ev.step (fun k => by simp only [impl_parting_groups.j2]; rfl) ?_
              refine ev_pos (by first | rfl | trivial) ?_
              rw [nx_and p s hp0 (by omega) (by omega)]
              exact ih (nx p s) g0 (by omega) hns hg hpk
            have take : cI (vals x) (low1 64 s) s p = true → Ev (fun k => impl_parting_groups.j2 k out (s : Int) ((2 ^ low1 64 s : Nat) : Int) (g0 : Int) (p : Int) false (ints (opn x)) (tab (FS (vals x)) (2 ^ (opn x).length)) (tab (FB (vals x)) (2 ^ (opn x).length))) (out ++ [((grp x s : Nat) : Int)] ++ ints (glF x m (s - grp x s))) := by
              intro hf
              rw [hf, if_pos rfl] at hpk
              refine Ev.step (fun k => by simp only [impl_parting_groups.j2]; rfl) (ev_neg (by decide) ?_)
              rw [nx_and p s hp0 (by omega) (by omega)]
              by_cases hg0 : g0 = 0
              · rw [if_pos (Or.inl hg0)] at hpk
                exact ev_pos (by omega) (ih (nx p s) p (by omega) hns hps hpk)
              · have l1 := mem_len (opn x).length p
                have l2 := mem_len (opn x).length g0
                obtain ⟨r, hr, hrl⟩ := compare_ev (mem (opn x).length p) (mem (opn x).length g0) (by omega) (by omega)
                refine ev_neg (by omega) (Ev.bind (members_ev _ p hn (by omega)) (Ev.bind (members_ev _ g0 hn (by omega)) (Ev.bind hr ?_)))
                by_cases hl : lexLt (mem (opn x).length p) (mem (opn x).length g0) = true
                · rw [if_pos (Or.inr hl)] at hpk
                  exact ev_pos (hrl.2 hl) (ih (nx p s) p (by omega) hns hps hpk)
                · rw [if_neg (fun z => z.elim hg0 hl)] at hpk
                  exact ev_neg (fun z => hl (hrl.1 z)) (ih (nx p s) g0 (by omega) hns hg hpk)
            refine Ev.step (fun k => by simp only [impl_parting_groups.l1]; rfl) (ev_pos (by omega) ?_)
            by_cases hb : p.testBit (low1 64 s) = true
            · refine ev_neg (fun z => by rw [(and_low p _ (by omega) hc).1 z] at hb; cases hb) ?_
              refine ev_pos (by omega) (ev_pos (by rw [tS]; omega) ?_)
              rw [tab_rd _ _ _ (by omega), FS_val]
              by_cases hz2 : sm (vals x) p = 0
              · refine ev_pos hz2 ?_
                have hb1 := B_bd (vals x) (s + 1) (s - p) (by omega)
                rw [andNot_n s p hp (by omega)]
                refine ev_pos (by omega) (ev_pos (by rw [tB]; omega) (ev_pos (by omega) (ev_pos (by rw [tB]; omega) ?_)))
                rw [tab_rd _ _ _ (by omega), tab_rd _ _ _ (by omega), show val (FB (vals x)) (s - p) = B (vals x) (s - p) from rfl, show val (FB (vals x)) s = B (vals x) s from rfl, wrap_id (by omega) (by omega)]
                by_cases he : 1 + B (vals x) (s - p) = B (vals x) s
                · rw [show ((1 + B (vals x) (s - p)) != B (vals x) s) = false from bne_eq_false_iff_eq.mpr he]
                  refine take ?_
                  unfold cI
                  rw [hb, decide_eq_true hz2, decide_eq_true he]; rfl
                · rw [show ((1 + B (vals x) (s - p)) != B (vals x) s) = true from bne_iff_ne.mpr he]
                  refine skip ?_
                  unfold cI
                  rw [hb, decide_eq_true hz2, decide_eq_false he]; rfl
              · refine ev_neg hz2 (skip ?_)
                unfold cI
                rw [hb, decide_eq_false hz2]; rfl
            · refine ev_pos ((and_low p _ (by omega) hc).2 (Bool.eq_false_iff.mpr hb)) (skip ?_)
              unfold cI
              rw [Bool.eq_false_iff.mpr hb]; rfl
          · have : p = 0 := by omega
            subst this
            have hpk' : g0 = grp x s := hpk
            subst hpk'
            refine Ev.step (fun k => by simp only [impl_parting_groups.l1]; rfl) (ev_neg (by omega) (ev_pos (by omega) ?_))
            rw [andNot_n s _ g2 (by omega)]
            exact rest
      refine Ev.step (fun k => by simp only [impl_parting_groups.l0]; rfl) (ev_pos (by omega) ?_)
      rw [neg_and s hpos (by omega)]
      exact key (s + 1) s 0 (by omega) (Sb_refl s) (by omega) (grp_pick x s hpos hs hz hn)
theorem groupsA_ev (x : List Int) (h : good x) (hn : (opn x).length ≤ 10) (hz : sm (vals x) (allS x) = 0) :
    Ev (fun k => impl_parting_groups.f k (ints (opn x)) (tab (FS (vals x)) (2 ^ (opn x).length)) (tab (FB (vals x)) (2 ^ (opn x).length))) (ints (glF x (2 ^ (opn x).length) (allS x))) := by
  have hN : 2 ^ (opn x).length ≤ 1024 := Nat.le_trans (Nat.pow_le_pow_right (by omega) hn) (by decide)
  have hp := Nat.two_pow_pos (opn x).length
  have hA : allS x + 1 = 2 ^ (opn x).length := by unfold allS; omega
  unfold impl_parting_groups.f
  rw [tab_len, wrap_id (by omega) (by omega), show ((2 ^ (opn x).length : Nat) : Int) - 1 = ((allS x : Nat) : Int) by omega]
  have := groupsI_ev x h hn (2 ^ (opn x).length) (allS x) [] (by omega) (by omega) hz (by simp; omega)
  rw [List.nil_append] at this
  exact this
def fill (x y : List Int) (l : List Nat) : List Int := l.foldl (fun y m => y.set m (g x m)) y
theorem fill_drop (x : List Int) (l : List Nat) (i : Nat) (h : i < l.length) (y : List Int) : fill x y (l.drop i) = fill x (y.set l[i] (g x l[i])) (l.drop (i + 1)) := by
  rw [List.drop_eq_getElem_cons h]; rfl
theorem fillS_ev (x : List Int) (o gr : List Int) (out : List D) (s p : Int) (l : List Nat) (hl : l.length ≤ 100) (hx : x.length ≤ 16) (hm : ∀ j ∈ l, j < x.length) (R : List D × Int) :
    ∀ (d i : Nat) (y : List Int), l.length - i = d → i ≤ l.length → y.length = x.length → Ev (fun k => (spec_l02Settle.f k (fill x y (l.drop i)) out).bind fun t => spec_FewestPayments.l0 k x o gr t (wrap64 (s - p))) R →
    Ev (fun k => spec_FewestPayments.l1 k x o gr out s p y (ints l) (i : Int)) R
  | 0, i, y, hd, hi, hy, hend => by
    have : i = l.length := by omega
    subst this
    rw [List.drop_length] at hend
    exact Ev.step (fun k => by simp only [spec_FewestPayments.l1]; rfl) (ev_neg (by rw [ints_len]; omega) hend)
  | d + 1, i, y, hd, hi, hy, hend => by
    have hlt : i < l.length := by omega
    have hj := hm l[i] (List.getElem_mem hlt)
    rw [fill_drop x l i hlt] at hend
    have ih := fillS_ev x o gr out s p l hl hx hm R d (i + 1) (y.set l[i] (g x l[i])) (by omega) (by omega) (by rw [List.length_set]; exact hy) hend
    refine Ev.step (fun k => by simp only [spec_FewestPayments.l1]; rfl) (ev_pos (by rw [ints_len]; omega) (ev_pos (by omega) ?_))
    rw [rd_ints l i hlt, wrap_up (n := 1048576) (by omega) (by omega), Int.toNat_natCast, show rd x ((l[i] : Nat) : Int) = g x l[i] from rfl]
    exact ev_pos (by omega) (ev_pos (by omega) (ev_pos (by omega) ih))
theorem payS_ev (x : List Int) (h : good x) (hn : (opn x).length ≤ 10) : ∀ (m s : Nat) (out : List D), s < m → s < 2 ^ (opn x).length → sm (vals x) s = 0 → out.length + 17 * s ≤ 100000 →
    Ev (fun k => spec_FewestPayments.l0 k x (ints (opn x)) (tab (FG (vals x)) (2 ^ (opn x).length)) out (s : Int)) (out ++ fewF x m s, 0)
  | 0, s, out, hm, _, _, _ => by omega
  | m + 1, s, out, hm, hs, hz, ho => by
    have hN : 2 ^ (opn x).length ≤ 1024 := Nat.le_trans (Nat.pow_le_pow_right (by omega) hn) (by decide)
    have h16 := h.2.1
    by_cases h0 : s = 0
    · subst h0
      refine Ev.step (fun k => by simp only [spec_FewestPayments.l0]; rfl) (ev_neg (by omega) (ev_eq (Ev.now _) ?_))
      simp [fewF]
    · obtain ⟨g1, g2, g3, g4, g5, g6⟩ := grp_spec x s (by omega) hs hz
      have hg := own_good x h (grp x s) g3
      have hle := Sb_le g2
      have sl := settle_len hg
      have pl := ppl_len x (grp x s)
      have rest := payS_ev x h hn m (s - grp x s) (out ++ settleL (own x (ppl x (grp x s)))) (by omega) (by omega) g4 (by rw [List.length_append]; omega)
      refine Ev.step (fun k => by simp only [spec_FewestPayments.l0]; rfl) (ev_pos (by omega) (Ev.bind (firstS_ev x hn s (by omega) hs) ?_))
      refine ev_pos (by omega) (ev_pos (by omega) (Ev.bind (membersS_ev x (grp x s) hn) ?_))
      rw [Int.toNat_natCast]
      refine fillS_ev x _ _ out _ _ (ppl x (grp x s)) (by omega) h16 (fun j hj => (ppl_opn x _ hj).1) _ _ 0 _ rfl (by omega) (by simp) ?_
      rw [List.drop_zero]
      refine Ev.bind (l02Settle_ev _ out hg (by omega)) ?_
      rw [show wrap64 ((s : Int) - ((grp x s : Nat) : Int)) = ((s - grp x s : Nat) : Int) by rw [wrap_id (by omega) (by omega)]; omega]
      refine ev_eq rest ?_
      simp only [fewF]
      rw [if_neg h0, List.append_assoc]
theorem fillI_ev (x : List Int) (out : List D) (gl : List Int) (n i0 : Int) (S B0 : List Int) (p : Nat) (hx : x.length ≤ 16) (hn : (opn x).length ≤ 10) (R : List D × Int) :
    ∀ (d i : Nat) (y : List Int), (mem (opn x).length p).length - i = d → i ≤ (mem (opn x).length p).length → y.length = x.length →
    Ev (fun k => (impl_settle.f k (fill x y ((ppl x p).drop i))).bind fun t => (if out.length + t.length < 5864062014805 then (impl_FewestPayments.l0 k x (out ++ t) gl n (wrap64 (i0 + 1)) (ints (opn x)) S B0) else none)) R →
    Ev (fun k => impl_FewestPayments.l1 k x out y gl n i0 (ints (mem (opn x).length p)) ((ints (mem (opn x).length p)).length : Int) (i : Int) (ints (opn x)) S B0) R
  | 0, i, y, hd, hi, hy, hend => by
    have hl : (ppl x p).length = (mem (opn x).length p).length := by simp [ppl]
    rw [List.drop_of_length_le (by omega)] at hend
    exact Ev.step (fun k => by simp only [impl_FewestPayments.l1]; rfl) (ev_neg (by rw [ints_len]; omega) hend)
  | d + 1, i, y, hd, hi, hy, hend => by
    have hlt : i < (mem (opn x).length p).length := by omega
    have hl : (ppl x p).length = (mem (opn x).length p).length := by simp [ppl]
    have ml := mem_len (opn x).length p
    have hk := (mem_mem _ _ _).1 (List.getElem_mem hlt)
    have hpi : (ppl x p)[i]'(by omega) = at_ x (mem (opn x).length p)[i] := by simp [ppl]
    have ha := (opn_mem x _).1 (at_mem x _ hk.1)
    rw [fill_drop x (ppl x p) i (by omega), hpi] at hend
    have ih := fillI_ev x out gl n i0 S B0 p hx hn R d (i + 1) _ (by omega) (by omega) (by rw [List.length_set]; exact hy) hend
    refine Ev.step (fun k => by simp only [impl_FewestPayments.l1]; rfl) (ev_pos (by rw [ints_len]; omega) (ev_pos (by omega) (ev_pos (by rw [ints_len]; omega) ?_)))
    rw [rd_ints _ i hlt, ints_len (opn x), ints_rd x _ hk.1, wrap_up (n := 1048576) (by omega) (by omega), Int.toNat_natCast, show rd x ((at_ x (mem (opn x).length p)[i] : Nat) : Int) = g x (at_ x (mem (opn x).length p)[i]) from rfl]
    exact ev_pos (by omega) (ev_pos (by omega) (ev_pos (by omega) (ev_pos (by omega) (ev_pos (by omega) ih))))
theorem glF_mem (x : List Int) : ∀ (m s : Nat), s < m → s < 2 ^ (opn x).length → sm (vals x) s = 0 → ∀ p ∈ glF x m s, p < 2 ^ (opn x).length ∧ sm (vals x) p = 0
  | 0, s, h, _, _, _, _ => by omega
  | m + 1, s, h, hs, hz, p, hp => by
    simp only [glF] at hp
    by_cases h0 : s = 0
    · rw [if_pos h0] at hp; cases hp
    · rw [if_neg h0] at hp
      obtain ⟨g1, g2, g3, g4, g5, g6⟩ := grp_spec x s (by omega) hs hz
      have hle := Sb_le g2
      rcases List.mem_cons.1 hp with e | e
      · rw [e]; exact ⟨by omega, g3⟩
      · exact glF_mem x m (s - grp x s) (by omega) (by omega) g4 p e
theorem glF_len (x : List Int) : ∀ (m s : Nat), s < m → s < 2 ^ (opn x).length → sm (vals x) s = 0 → (glF x m s).length ≤ s
  | 0, s, h, _, _ => by omega
  | m + 1, s, h, hs, hz => by
    simp only [glF]
    by_cases h0 : s = 0
    · rw [if_pos h0]; simp
    · rw [if_neg h0]
      obtain ⟨g1, g2, g3, g4, g5, g6⟩ := grp_spec x s (by omega) hs hz
      have := glF_len x m (s - grp x s) (by omega) (by omega) g4
      rw [List.length_cons]; omega
theorem payI_ev (x : List Int) (h : good x) (hn : (opn x).length ≤ 10) (S B0 : List Int) (gl : List Nat) (hgl : gl.length ≤ 2000) (hm : ∀ p ∈ gl, p < 2 ^ (opn x).length ∧ sm (vals x) p = 0) :
    ∀ (d i : Nat) (out : List D), gl.length - i = d → i ≤ gl.length → out.length ≤ 17 * i →
    Ev (fun k => impl_FewestPayments.l0 k x out (ints gl) ((ints gl).length : Int) (i : Int) (ints (opn x)) S B0) (out ++ ((gl.drop i).flatMap fun p => settleL (own x (ppl x p))), 0)
  | 0, i, out, hd, hi, ho => by
    rw [List.drop_of_length_le (by omega)]
    refine Ev.step (fun k => by simp only [impl_FewestPayments.l0]; rfl) (ev_neg (by rw [ints_len]; omega) (ev_eq (Ev.now _) ?_))
    simp
  | d + 1, i, out, hd, hi, ho => by
    have hlt : i < gl.length := by omega
    have h16 := h.2.1
    obtain ⟨q1, q2⟩ := hm gl[i] (List.getElem_mem hlt)
    have hg := own_good x h gl[i] q2
    have sl := settle_len hg
    have rest := payI_ev x h hn S B0 gl hgl hm d (i + 1) (out ++ settleL (own x (ppl x gl[i]))) (by omega) (by omega) (by rw [List.length_append]; omega)
    refine Ev.step (fun k => by simp only [impl_FewestPayments.l0]; rfl) (ev_pos (by rw [ints_len]; omega) (ev_pos (by omega) (ev_pos (by rw [ints_len]; omega) (ev_pos (by omega) (ev_pos (by omega) ?_)))))
    rw [rd_ints gl i hlt, Int.toNat_natCast]
    refine Ev.bind (members_ev (opn x).length gl[i] hn q1) ?_
    refine fillI_ev x out _ _ _ S B0 gl[i] h16 hn _ _ 0 _ rfl (by omega) (by simp) ?_
    rw [List.drop_zero, show fill x (List.replicate x.length 0) (ppl x gl[i]) = own x (ppl x gl[i]) from rfl]
    refine Ev.bind (settleF_ev _ hg) ?_
    refine ev_pos (by omega) ?_
    rw [wrap_up (n := 1048576) (by omega) (by omega)]
    refine ev_eq rest ?_
    rw [List.drop_eq_getElem_cons hlt, List.flatMap_cons, List.append_assoc]
end Go.Proofs.YtcghnnhhgngddaaDoor.PuFewEvSettled
-- a text of this session, cut down for this claim
namespace Go.Proofs.YtcghnnhhgngddaaDoor.PuFewRSettled
open Go.RowKit Go.Proofs.YtcghnnhhgngddaaDoor.MSettled Go.Proofs.YtcghnnhhgngddaaDoorW.PrintWords Go.Proofs.YtcghnnhhgngddaaDoorW.PrintLast Go.Proofs.YtcghnnhhgngddaaDoor.Evs Go.Proofs.YtcghnnhhgngddaaDoor.PuDebtSettled Go.Proofs.YtcghnnhhgngddaaDoor.PuZeroSettled Go.Proofs.YtcghnnhhgngddaaDoor.PuSubSettled Go.Proofs.YtcghnnhhgngddaaDoor.PuOpnSettled Go.Proofs.YtcghnnhhgngddaaDoor.PuFewSettled Go.Proofs.YtcghnnhhgngddaaDoor.PuTabsSettled Go.Proofs.YtcghnnhhgngddaaDoor.PuPartSettled Go.Proofs.YtcghnnhhgngddaaDoor.PuGroupsSettled Go.Proofs.YtcghnnhhgngddaaDoor.PuMemsSettled Go.Proofs.YtcghnnhhgngddaaDoor.PuFewEvSettled Go.Proofs.YtcghnnhhgngddaaDoor.PuZSumSettled
open Go.Proofs.YtcghnnhhgngddaaDoor.PuSettleSettled (g good good_of g_lt)
set_option linter.unusedVariables false
set_option linter.unusedSimpArgs false
def fewR (x : List Int) : List D × Int := if nets0 x = true then (if (opn x).length ≤ 10 then (fewL x, 0) else ([], 3)) else ([], 1)
theorem allS_lt (x : List Int) : allS x < 2 ^ (opn x).length := by
  have := Nat.two_pow_pos (opn x).length
  unfold allS; omega
theorem all0 {x : List Int} (h : good x) : sm (vals x) (allS x) = 0 := all_zero h
theorem fewL_len {x : List Int} (h : good x) (hn : (opn x).length ≤ 10) : (fewL x).length ≤ 10 := by
  have a := (few_spec x h _ _ (allS_lt x) (allS_lt x) (all0 h)).2.1
  have b := mem_len (opn x).length (allS x)
  have c := G_bd (vals x) (allS x + 1) (allS x) (by omega)
  by_cases e : allS x = 0
  · unfold fewL
    rw [e] at a b ⊢
    rw [G_zero] at a
    omega
  · have d := G_pos (vals x) e (all0 h)
    unfold fewL
    omega
theorem fewS_ev (x : List Int) (hl : x.length ≤ maxLen) : Ev (fun k => spec_FewestPayments.f k x) (fewR x) := by
  unfold spec_FewestPayments.f fewR
  refine Ev.bind (ZeroS_ev x hl) ?_
  by_cases h0 : nets0 x = true
  · rw [if_pos h0]
    have hg := good_of h0
    have h16 := hg.2.1
    refine ev_pos h0 (Ev.bind (openS_ev x h16) ?_)
    rw [ints_len]
    by_cases h10 : (opn x).length ≤ 10
    · rw [if_pos h10]
      have hN : 2 ^ (opn x).length ≤ 1024 := Nat.le_trans (Nat.pow_le_pow_right (by omega) h10) (by decide)
      have hp := Nat.two_pow_pos (opn x).length
      have hA : allS x + 1 = 2 ^ (opn x).length := by unfold allS; omega
      refine ev_neg (by omega) (Ev.bind (groups_ev x hg h10) ?_)
      rw [tab_len, wrap_id (by omega) (by omega), show ((2 ^ (opn x).length : Nat) : Int) - 1 = ((allS x : Nat) : Int) by omega]
      have := payS_ev x hg h10 (2 ^ (opn x).length) (allS x) [] (by omega) (by omega) (all0 hg) (by simp; omega)
      rw [List.nil_append] at this
      exact this
    · rw [if_neg h10]
      exact ev_pos (by omega) (Ev.now _)
  · rw [if_neg h0]
    exact ev_neg h0 (Ev.now _)
theorem fewI_ev (x : List Int) (hl : x.length ≤ maxLen) : Ev (fun k => impl_FewestPayments.f k x) (fewR x) := by
  unfold impl_FewestPayments.f fewR
  refine Ev.bind (part_ev x hl) ?_
  unfold partR
  by_cases h0 : nets0 x = true
  · rw [if_pos h0, if_pos h0]
    have hg := good_of h0
    by_cases h10 : (opn x).length ≤ 10
    · rw [if_pos h10, if_pos h10]
      have hN : 2 ^ (opn x).length ≤ 1024 := Nat.le_trans (Nat.pow_le_pow_right (by omega) h10) (by decide)
      have hp := Nat.two_pow_pos (opn x).length
      have hA : allS x + 1 = 2 ^ (opn x).length := by unfold allS; omega
      refine ev_pos rfl (Ev.bind (groupsA_ev x hg h10 (all0 hg)) ?_)
      have gl := glF_len x (2 ^ (opn x).length) (allS x) (by omega) (by omega) (all0 hg)
      have := payI_ev x hg h10 (tab (FS (vals x)) (2 ^ (opn x).length)) (tab (FB (vals x)) (2 ^ (opn x).length)) (glF x (2 ^ (opn x).length) (allS x)) (by omega) (glF_mem x _ _ (by omega) (by omega) (all0 hg)) _ 0 [] rfl (by omega) (by simp)
      rw [List.drop_zero, List.nil_append, ← few_gl] at this
      exact this
    · rw [if_neg h10, if_neg h10]
      exact ev_neg (by decide) (Ev.now _)
  · rw [if_neg h0, if_neg h0]
    exact ev_neg (by decide) (Ev.now _)
end Go.Proofs.YtcghnnhhgngddaaDoor.PuFewRSettled
-- a text of this session, cut down for this claim
namespace Go.Proofs.YtcghnnhhgngddaaDoor.PuZeroRSettled
open Go.RowKit Go.Proofs.YtcghnnhhgngddaaDoor.MSettled Go.Proofs.YtcghnnhhgngddaaDoorW.PrintWords Go.Proofs.YtcghnnhhgngddaaDoorW.PrintLast Go.Proofs.YtcghnnhhgngddaaDoor.Evs Go.Proofs.YtcghnnhhgngddaaDoor.PuZeroSettled Go.Proofs.YtcghnnhhgngddaaDoor.PuSubSettled Go.Proofs.YtcghnnhhgngddaaDoor.PuOpnSettled Go.Proofs.YtcghnnhhgngddaaDoor.PuTabsSettled Go.Proofs.YtcghnnhhgngddaaDoor.PuPartSettled Go.Proofs.YtcghnnhhgngddaaDoor.PuGroupsSettled Go.Proofs.YtcghnnhhgngddaaDoor.PuZSumSettled
open Go.Proofs.YtcghnnhhgngddaaDoor.PuSettleSettled (g good good_of g_lt)
set_option linter.unusedVariables false
set_option linter.unusedSimpArgs false
noncomputable def zeroR (x : List Int) : Int × Int := if nets0 x = true then (if (opn x).length ≤ 10 then (G (vals x) (2 ^ (opn x).length - 1), 0) else (0, 3)) else (0, 1)
theorem last_rd (F : (Nat → Int) → Nat → Int) (N : Nat) (h : 0 < N) (hN : N ≤ 1024) : (0 ≤ wrap64 (((tab F N).length : Int) - 1)) ∧ wrap64 (((tab F N).length : Int) - 1) < ((tab F N).length : Int) ∧ rd (tab F N) (wrap64 (((tab F N).length : Int) - 1)) = val F (N - 1) := by
  rw [tab_len, wrap_id (by omega) (by omega), show (N : Int) - 1 = ((N - 1 : Nat) : Int) by omega]
  exact ⟨by omega, by omega, tab_get F N (N - 1) (by omega)⟩
theorem zeroS_ev (x : List Int) (hl : x.length ≤ maxLen) : Ev (fun k => spec_ZeroGroups.f k x) (zeroR x) := by
  unfold spec_ZeroGroups.f zeroR
  refine Ev.bind (ZeroS_ev x hl) ?_
  by_cases h0 : nets0 x = true
  · rw [if_pos h0]
    have hg := good_of h0
    have h16 := hg.2.1
    refine ev_pos h0 (Ev.bind (openS_ev x h16) ?_)
    rw [ints_len]
    by_cases h10 : (opn x).length ≤ 10
    · rw [if_pos h10]
      have hN : 2 ^ (opn x).length ≤ 1024 := Nat.le_trans (Nat.pow_le_pow_right (by omega) h10) (by decide)
      have hp := Nat.two_pow_pos (opn x).length
      obtain ⟨l1, l2, l3⟩ := last_rd (FG (vals x)) _ hp hN
      refine ev_neg (by omega) (Ev.bind (groups_ev x hg h10) (ev_pos l1 (ev_pos l2 ?_)))
      rw [l3]
      exact Ev.now _
    · rw [if_neg h10]
      exact ev_pos (by omega) (Ev.now _)
  · rw [if_neg h0]
    exact ev_neg h0 (Ev.now _)
theorem zeroI_ev (x : List Int) (hl : x.length ≤ maxLen) : Ev (fun k => impl_ZeroGroups.f k x) (zeroR x) := by
  unfold impl_ZeroGroups.f zeroR
  refine Ev.bind (part_ev x hl) ?_
  unfold partR
  by_cases h0 : nets0 x = true
  · rw [if_pos h0, if_pos h0]
    have hg := good_of h0
    by_cases h10 : (opn x).length ≤ 10
    · rw [if_pos h10, if_pos h10]
      have hN : 2 ^ (opn x).length ≤ 1024 := Nat.le_trans (Nat.pow_le_pow_right (by omega) h10) (by decide)
      have hp := Nat.two_pow_pos (opn x).length
      obtain ⟨l1, l2, l3⟩ := last_rd (FB (vals x)) _ hp hN
      refine ev_pos rfl (ev_pos l1 (ev_pos l2 ?_))
      dsimp only
      rw [l3, show val (FB (vals x)) (2 ^ (opn x).length - 1) = B (vals x) (2 ^ (opn x).length - 1) from rfl, B_G (vals x) (2 ^ (opn x).length) _ (by omega) (all_zero hg)]
      exact Ev.now _
    · rw [if_neg h10, if_neg h10]
      exact ev_neg (by decide) (Ev.now _)
  · rw [if_neg h0, if_neg h0]
    exact ev_neg (by decide) (Ev.now _)
end Go.Proofs.YtcghnnhhgngddaaDoor.PuZeroRSettled
-- a text of this session, cut down for this claim
namespace Go.Proofs.YtcghnnhhgngddaaDoor.PuSameISettled
open Go.RowKit Go.Proofs.YtcghnnhhgngddaaDoor.MSettled Go.Proofs.YtcghnnhhgngddaaDoorW.PrintWords Go.Proofs.YtcghnnhhgngddaaDoorW.PrintLast Go.Proofs.YtcghnnhhgngddaaDoor.Evs Go.Proofs.YtcghnnhhgngddaaDoor.PuDebtSettled
set_option linter.unusedVariables false
set_option linter.unusedSimpArgs false
theorem drop_eq_iff (a b : List Int) (i : Nat) (ha : i < a.length) (hb : i < b.length) : a.drop i = b.drop i ↔ a[i] = b[i] ∧ a.drop (i + 1) = b.drop (i + 1) := by
  rw [List.drop_eq_getElem_cons ha, List.drop_eq_getElem_cons hb, List.cons.injEq]
theorem equalI_ev (a b : List Int) (h : a.length ≤ maxLen) : Ev (fun k => slices_Equal_int64_int64.f k a b) (dec (a = b)) := by
  unfold slices_Equal_int64_int64.f
  unfold maxLen at h
  by_cases hl : a.length = b.length
  · refine ev_pos (by omega) ?_
    have key := fun (i : Nat) (hi : i ≤ a.length) => ev_for (n := a.length) (G := fun k (_ : Unit) i => slices_Equal_int64_int64.l0 k a b (a.length : Int) i) (F := fun _ i => dec (a.drop i = b.drop i)) (fun i hi ih _ => by
      by_cases he : a[i] = b[i]
      · refine ev_eq (Ev.step (fun k => ?_) (ih ())) ?_
        · simp only [slices_Equal_int64_int64.l0]
          rw [if_pos (by omega), if_pos (by omega), if_pos (by omega), if_pos (by omega), show rd a (i : Int) = a[i] from getD_lt a _ i hi, show rd b (i : Int) = b[i]'(by omega) from getD_lt b _ i (by omega), if_pos he, wrap_up hi (by omega)]
        · congr 1
          rw [drop_eq_iff a b i hi (by omega)]
          simp [he]
      · refine ev_eq (Ev.step (f := fun _ => some false) (fun k => ?_) (Ev.now _)) ?_
        · simp only [slices_Equal_int64_int64.l0]
          rw [if_pos (by omega), if_pos (by omega), if_pos (by omega), if_pos (by omega), show rd a (i : Int) = a[i] from getD_lt a _ i hi, show rd b (i : Int) = b[i]'(by omega) from getD_lt b _ i (by omega), if_neg he]
        · rw [drop_eq_iff a b i hi (by omega)]
          exact (dec_false (fun h => he h.1)).symm) (fun _ => by
      refine ev_eq (Ev.step (f := fun _ => some true) (fun k => ?_) (Ev.now _)) ?_
      · simp only [slices_Equal_int64_int64.l0]
        rw [if_neg (by omega)]
      · exact (dec_true (by rw [List.drop_of_length_le (by omega), List.drop_of_length_le (by omega)])).symm) i hi ()
    simpa using key 0 (by omega)
  · refine ev_neg (by omega) (ev_eq (Ev.now false) (dec_false (fun h => hl (by rw [h]))).symm)
end Go.Proofs.YtcghnnhhgngddaaDoor.PuSameISettled
-- a text of this session, cut down for this claim
namespace Go.Proofs.YtcghnnhhgngddaaDoor.PuSetAllSettled
open Go.RowKit Go.Proofs.YtcghnnhhgngddaaDoor.MSettled Go.Proofs.YtcghnnhhgngddaaDoorW.PrintWords Go.Proofs.YtcghnnhhgngddaaDoorW.PrintLast Go.Proofs.YtcghnnhhgngddaaDoor.Evs Go.Proofs.YtcghnnhhgngddaaDoor.PuDebtSettled Go.Proofs.YtcghnnhhgngddaaDoor.PuSumNetsSettled Go.Proofs.YtcghnnhhgngddaaDoor.PuZeroSettled Go.Proofs.YtcghnnhhgngddaaDoor.PuSameISettled
set_option linter.unusedVariables false
set_option linter.unusedSimpArgs false
noncomputable def setR (x : List Int) (l : List D) : Bool × Int := if nets0 x = true ∧ valid x.length l = true then (dec (netsW x.length l = x), 0) else (false, 1)
theorem setI_ev (x : List Int) (l : List D) (hx : x.length ≤ maxLen) (hl : l.length ≤ maxLen) : Ev (fun k => impl_SettlesAll.f k x l) (setR x l) := by
  unfold impl_SettlesAll.f setR
  refine Ev.bind (ZeroI_ev x hx) ?_
  have hf : Ev (fun k => impl_SettlesAll.j0 k x l (x.length : Int) true) (false, 1) := Ev.step (f := fun _ => some (false, 1)) (fun k => by simp only [impl_SettlesAll.j0]; rfl) (Ev.now _)
  by_cases h0 : nets0 x = true
  · refine ev_pos h0 (Ev.bind (ValidI_ev _ l hl) ?_)
    by_cases hv : valid x.length l = true
    · rw [hv, if_pos ⟨h0, rfl⟩]
      refine Ev.step (fun k => by simp only [impl_SettlesAll.j0]; rfl) ?_
      have hn := NetsI_ev (x.length : Int) l hl
      unfold netsR at hn
      rw [if_pos hv] at hn
      refine Ev.bind hn (Ev.bind (equalI_ev _ x ?_) (Ev.now _))
      dsimp only
      rw [netsW_length]; unfold maxLen at hx ⊢; omega
    · rw [Bool.eq_false_iff.mpr hv, if_neg (fun h => by cases h.2)]
      exact hf
  · refine ev_neg h0 ?_
    rw [if_neg (fun h => h0 h.1)]
    exact hf
end Go.Proofs.YtcghnnhhgngddaaDoor.PuSetAllSettled
-- a text of this session, cut down for this claim
namespace Go.Proofs.YtcghnnhhgngddaaDoor.PuSettBSettled
open Go.RowKit Go.Proofs.YtcghnnhhgngddaaDoor.MSettled Go.Proofs.YtcghnnhhgngddaaDoorW.PrintWords Go.Proofs.YtcghnnhhgngddaaDoorW.PrintLast Go.Proofs.YtcghnnhhgngddaaDoor.Evs Go.Proofs.YtcghnnhhgngddaaDoor.PuDebtSettled Go.Proofs.YtcghnnhhgngddaaDoor.PuSumNetsSettled Go.Proofs.YtcghnnhhgngddaaDoor.PuZeroSettled Go.Proofs.YtcghnnhhgngddaaDoor.PuSubSettled Go.Proofs.YtcghnnhhgngddaaDoor.PuPaysSettled Go.Proofs.YtcghnnhhgngddaaDoor.PuSetBSettled Go.Proofs.YtcghnnhhgngddaaDoor.PuOpnSettled Go.Proofs.YtcghnnhhgngddaaDoor.PuTabsSettled Go.Proofs.YtcghnnhhgngddaaDoor.PuPartSettled
open Go.Proofs.YtcghnnhhgngddaaDoor.PuSettleSettled (g good g_lt g_set_ne nz nz_le)
set_option linter.unusedVariables false
set_option linter.unusedSimpArgs false
def okP (n : Nat) (d : D) : Prop := 0 ≤ d.f0 ∧ d.f0 < n ∧ 0 ≤ d.f1 ∧ d.f1 < n ∧ d.f0 ≠ d.f1 ∧ 1 ≤ d.f2 ∧ d.f2 ≤ 100000000
theorem valid_of (n : Nat) (l : List D) (h1 : 1 ≤ n) (h2 : n ≤ 16) (h3 : l.length ≤ 60) (h : ∀ d ∈ l, okP n d) : valid (n : Int) l = true := by
  simp only [valid, Bool.and_eq_true, decide_eq_true_eq, List.all_eq_true]
  exact ⟨⟨by omega, by omega, h3⟩, fun d hd => okD_true (h d hd)⟩
theorem rd_g2 (x : List Int) (z : Int) (h : 0 ≤ z) : rd x z = g x z.toNat := by
  show rd x z = x.getD z.toNat 0
  rfl
theorem netW_g (n : Nat) (y : List Int) (hy : y.length = n) (d : D) (hd : okP n d) (b : Int) (hb : b ≤ 10000000000) (hbd : ∀ k, -b ≤ g y k ∧ g y k ≤ b) (k : Nat) : g (netW y d) k = g y k - dl (toP d) k := by
  obtain ⟨h0, h1, h2, h3, h4, h5, h6⟩ := hd
  have hne : d.f0.toNat ≠ d.f1.toNat := by omega
  have b0 := hbd d.f0.toNat
  have b1 := hbd d.f1.toNat
  unfold netW dl toP
  dsimp only
  rw [rd_g2 _ _ h0, rd_g2 _ _ h2, g_set_ne _ _ _ _ hne, wrap_id (x := g y d.f0.toNat - d.f2) (by omega) (by omega), wrap_id (x := g y d.f1.toNat + d.f2) (by omega) (by omega)]
  by_cases e1 : k = d.f1.toNat
  · rw [if_neg (by omega), if_pos e1, e1, g_set_eq _ _ _ (by rw [List.length_set]; omega)]; omega
  · rw [g_set_ne _ _ _ _ (fun z => e1 z.symm), if_neg e1]
    by_cases e2 : k = d.f0.toNat
    · rw [if_pos e2, e2, g_set_eq _ _ _ (by omega)]; omega
    · rw [if_neg e2, g_set_ne _ _ _ _ (fun z => e2 z.symm)]; omega
theorem dl_bd (n : Nat) (d : D) (hd : okP n d) (k : Nat) : -100000000 ≤ dl (toP d) k ∧ dl (toP d) k ≤ 100000000 := by
  obtain ⟨h0, h1, h2, h3, h4, h5, h6⟩ := hd
  unfold dl toP
  dsimp only
  split <;> split <;> omega
theorem fold_g (n : Nat) : ∀ (l : List D) (y : List Int) (b : Int), y.length = n → (∀ d ∈ l, okP n d) → 0 ≤ b → b + 100000000 * l.length ≤ 10000000000 → (∀ k, -b ≤ g y k ∧ g y k ≤ b) → ∀ k, g (l.foldl netW y) k = g y k - tot (l.map toP) k
  | [], y, b, _, _, _, _, _, k => by simp [tot]
  | d :: l, y, b, hy, hl, hb0, hb, hbd, k => by
    have hd := hl d List.mem_cons_self
    rw [List.length_cons] at hb
    have e := netW_g n y hy d hd b (by omega) hbd
    have ih := fold_g n l (netW y d) (b + 100000000) (by rw [netW_length]; exact hy) (fun z hz => hl z (List.mem_cons_of_mem _ hz)) (by omega) (by omega) (fun j => by
      have := dl_bd n d hd j
      have := hbd j
      rw [e j]; omega) k
    rw [List.foldl_cons, ih, e k, List.map_cons, tot_cons]
    omega
theorem g_zeros (n k : Nat) : g (List.replicate n 0) k = 0 := by
  simp only [g, List.getD_eq_getElem?_getD, List.getElem?_replicate]
  split <;> rfl
theorem settles {x : List Int} (l : List D) (h : ∀ d ∈ l, okP x.length d) (hl : l.length ≤ 60) (ht : ∀ k, g x k + tot (l.map toP) k = 0) : netsW (x.length : Int) l = x := by
  have hlen := netsW_length (x.length : Int) l
  rw [Int.toNat_natCast] at hlen
  have key := fold_g x.length l (List.replicate x.length 0) 0 (by simp) h (by omega) (by omega) (fun k => by rw [g_zeros]; omega)
  apply List.ext_getElem hlen
  intro k h1 h2
  have hk := key k
  rw [g_zeros] at hk
  have := ht k
  have e1 : g (netsW (x.length : Int) l) k = (netsW (x.length : Int) l)[k] := g_lt _ k h1
  have e2 : g x k = x[k] := g_lt x k h2
  have e3 : netsW (x.length : Int) l = l.foldl netW (List.replicate x.length 0) := by unfold netsW; rw [Int.toNat_natCast]
  rw [← e1, ← e2, e3]
  omega
theorem nz_snoc : ∀ (l : List Int) (a : Int), nz (l ++ [a]) = nz l + (if a = 0 then 0 else 1)
  | [], a => by simp [nz]
  | b :: l, a => by
    have := nz_snoc l a
    simp only [List.cons_append, nz]
    omega
theorem nz_take (x : List Int) : ∀ i, i ≤ x.length → nz (x.take i) = (oi x i).length
  | 0, _ => rfl
  | i + 1, h => by
    rw [List.take_succ_eq_append_getElem (show i < x.length by omega), nz_snoc, nz_take x i (by omega), oi_step, show x[i]'(by omega) = g x i from (g_lt x i (by omega)).symm]
    split
    · rfl
    · rw [List.length_append]; rfl
theorem nz_opn (x : List Int) : nz x = (opn x).length := by
  have := nz_take x x.length (Nat.le_refl _)
  rw [List.take_length] at this
  exact this
end Go.Proofs.YtcghnnhhgngddaaDoor.PuSettBSettled
-- a text of this session, cut down for this claim
namespace Go.Proofs.YtcghnnhhgngddaaDoor.PuPickBSettled
open Go.RowKit Go.Proofs.YtcghnnhhgngddaaDoor.MSettled Go.Proofs.YtcghnnhhgngddaaDoorW.PrintWords Go.Proofs.YtcghnnhhgngddaaDoorW.PrintLast Go.Proofs.YtcghnnhhgngddaaDoor.Evs
set_option linter.unusedVariables false
set_option linter.unusedSimpArgs false
def byteL (c : List Int) : Prop := c.length ≤ 100000 ∧ ∀ x ∈ c, 0 ≤ x ∧ x ≤ 255
theorem rd_byte {c : List Int} (h : byteL c) (i : Int) : 0 ≤ rd c i ∧ rd c i ≤ 255 := by
  show 0 ≤ c.getD i.toNat 0 ∧ c.getD i.toNat 0 ≤ 255
  by_cases hi : i.toNat < c.length
  · rw [getD_lt c 0 _ hi]; exact h.2 _ (List.getElem_mem hi)
  · rw [List.getD_eq_getElem?_getD, List.getElem?_eq_none (by omega)]; simp
theorem u64w (x : Int) : 0 ≤ IntKind.u64.wrap x ∧ IntKind.u64.wrap x < 18446744073709551616 := by
  have e : IntKind.u64.wrap x = x % 18446744073709551616 := by
    simp [IntKind.wrap, IntKind.bits, IntKind.signed]
  rw [e]; omega
theorem and255 (x : Int) : 0 ≤ wrap64 (Go.bits .and .u64 (IntKind.u64.wrap x / 1099511627776) 255) ∧ wrap64 (Go.bits .and .u64 (IntKind.u64.wrap x / 1099511627776) 255) ≤ 255 := by
  have h := u64w x
  rw [u64_and _ _ (by omega) (by omega) (by omega) (by omega)]
  have h2 : (IntKind.u64.wrap x / 1099511627776).toNat &&& (255 : Int).toNat ≤ (255 : Int).toNat := Nat.and_le_right
  have h3 : ((255 : Int).toNat) = 255 := rfl
  rw [h3] at h2 ⊢
  rw [wrap_id (by omega) (by omega)]
  omega
theorem next_f {c : List Int} (h : byteL c) (i s : Int) (hi : 0 ≤ i) (hi2 : i ≤ 1000000) : ∃ b s2, spec_l00Src_next.f c i s = some (b, i + 1, s2) ∧ 0 ≤ b ∧ b ≤ 255 := by
  have hr := rd_byte h i
  have hw : wrap64 (rd c i) = rd c i := wrap_id (by omega) (by omega)
  have hw2 : wrap64 (i + 1) = i + 1 := wrap_id (by omega) (by omega)
  unfold spec_l00Src_next.f
  rw [hw2]
  by_cases h1 : i < (c.length : Int)
  · rw [if_pos h1, if_pos hi]
    by_cases h2 : i + 1 ≤ (c.length : Int)
    · rw [if_pos h2, hw]; exact ⟨_, _, rfl, hr.1, hr.2⟩
    · rw [if_neg h2]
      exact ⟨_, _, rfl, (and255 _).1, (and255 _).2⟩
  · rw [if_neg h1]
    by_cases h2 : i + 1 ≤ (c.length : Int)
    · rw [if_pos h2]; exact ⟨_, _, rfl, by omega, by omega⟩
    · rw [if_neg h2]
      exact ⟨_, _, rfl, (and255 _).1, (and255 _).2⟩
theorem pick_f {c : List Int} (h : byteL c) (i s n : Int) (hi : 0 ≤ i) (hi2 : i ≤ 1000000) (hn : 1 ≤ n) (hn2 : n ≤ 200) : ∃ x i2 s2, spec_l00Src_pick.f c i s n = some (x, i2, s2) ∧ 0 ≤ x ∧ x < n ∧ i ≤ i2 ∧ i2 ≤ i + 1 := by
  unfold spec_l00Src_pick.f
  by_cases h1 : n ≤ 1
  · rw [if_pos h1]; exact ⟨_, _, _, rfl, by omega, by omega, by omega, by omega⟩
  · rw [if_neg h1]
    obtain ⟨b, s2, e, hb, hb2⟩ := next_f h i s hi hi2
    rw [e]
    simp only [Option.bind_some]
    rw [if_neg (by omega), if_neg (by omega)]
    refine ⟨_, _, _, rfl, ?_, ?_, by omega, by omega⟩
    · exact Int.tmod_nonneg _ hb
    · exact Int.tmod_lt_of_pos _ (by omega)
end Go.Proofs.YtcghnnhhgngddaaDoor.PuPickBSettled
-- a text of this session, cut down for this claim
namespace Go.Proofs.YtcghnnhhgngddaaDoor.PuDrawNSettled
open Go.RowKit Go.Proofs.YtcghnnhhgngddaaDoor.MSettled Go.Proofs.YtcghnnhhgngddaaDoorW.PrintWords Go.Proofs.YtcghnnhhgngddaaDoorW.PrintLast Go.Proofs.YtcghnnhhgngddaaDoor.Evs Go.Proofs.YtcghnnhhgngddaaDoor.PuPickBSettled
open Go.Proofs.YtcghnnhhgngddaaDoor.PuSettleSettled (g good)
set_option linter.unusedVariables false
set_option linter.unusedSimpArgs false
theorem one_n {c : List Int} (h : byteL c) (i s n : Int) (hi : 0 ≤ i) (hi2 : i ≤ 1000000) (hn : 1 ≤ n) (hn2 : n ≤ 200) : ∃ b i2 s2, spec_l00Src_one.f c i s n = some (b, i2, s2) ∧ i ≤ i2 ∧ i2 ≤ i + 1 := by
  obtain ⟨x, i2, s2, e, _, _, h1, h2⟩ := pick_f h i s n hi hi2 hn hn2
  unfold spec_l00Src_one.f
  rw [e]
  exact ⟨_, _, _, rfl, h1, h2⟩
theorem sum_snoc (l : List Int) (v : Int) : (l ++ [v]).sum = l.sum + v := by simp
theorem sum_bd : ∀ (l : List Int), (∀ v ∈ l, -10 ≤ v ∧ v ≤ 10) → -10 * (l.length : Int) ≤ l.sum ∧ l.sum ≤ 10 * (l.length : Int)
  | [], _ => by simp
  | v :: l, h => by
    have a := sum_bd l (fun w hw => h w (List.mem_cons_of_mem _ hw))
    have b := h v List.mem_cons_self
    rw [List.sum_cons, List.length_cons]
    omega
theorem nets_loop {c : List Int} (h : byteL c) : ∀ (n : Nat) (out : List Int) (i st : Int), out.length + n ≤ 8 → 0 ≤ i → i + 3 * n ≤ 1000 → (∀ v ∈ out, -10 ≤ v ∧ v ≤ 10) →
    ∃ x, Ev (fun k => spec_A2Nets.l0 k out out.sum (n : Int) c i st) x ∧ good x ∧ x.length ≤ 9
  | 0, out, i, st, ho, hi, hi2, hb => by
    have hs := sum_bd out hb
    refine ⟨out ++ [-out.sum], ?_, ⟨by simp, by simp; omega, ?_, by rw [sum_snoc]; omega⟩, by simp; omega⟩
    · refine Ev.step (fun k => by simp only [spec_A2Nets.l0]; rfl) (ev_neg (by omega) (ev_pos (by omega) ?_))
      rw [wrap_id (by omega) (by omega)]
      exact Ev.now _
    · intro v hv
      rcases List.mem_append.1 hv with e | e
      · have := hb v e; omega
      · rw [List.mem_singleton] at e; omega
  | n + 1, out, i, st, ho, hi, hi2, hb => by
    have hs := sum_bd out hb
    obtain ⟨p, i2, s2, e1, p0, p1, q0, q1⟩ := pick_f h i st 21 hi (by omega) (by omega) (by omega)
    obtain ⟨b, i3, s3, e2, q2, q3⟩ := one_n h i2 s2 3 (by omega) (by omega) (by omega) (by omega)
    have ew : wrap64 (((n + 1 : Nat) : Int) - 1) = (n : Int) := by rw [wrap_id (by omega) (by omega)]; omega
    have add : ∀ (v i' s' : Int), -10 ≤ v → v ≤ 10 → 0 ≤ i' → i' + 3 * n ≤ 1000 → ∃ x, Ev (fun k => if out.length < 17592186044416 then (spec_A2Nets.l0 k (out ++ [v]) (wrap64 (out.sum + v)) (wrap64 (((n + 1 : Nat) : Int) - 1)) c i' s') else none) x ∧ good x ∧ x.length ≤ 9 := by
      intro v i' s' v0 v1 hi' hi2'
      obtain ⟨x, hx, hr⟩ := nets_loop h n (out ++ [v]) i' s' (by simp; omega) hi' hi2' (fun w hw => by
        rcases List.mem_append.1 hw with e | e
        · exact hb w e
        · rw [List.mem_singleton] at e; omega)
      refine ⟨x, ev_pos (by omega) ?_, hr⟩
      rw [ew, wrap_id (by omega) (by omega), ← sum_snoc]
      exact hx
    have plain : ∃ x, Ev (fun k => if out.length < 17592186044416 then (spec_A2Nets.l0 k (out ++ [wrap64 (p - 10)]) (wrap64 (out.sum + (wrap64 (p - 10)))) (wrap64 (((n + 1 : Nat) : Int) - 1)) c i3 s3) else none) x ∧ good x ∧ x.length ≤ 9 := by
      rw [wrap_id (x := p - 10) (by omega) (by omega)]
      exact add (p - 10) i3 s3 (by omega) (by omega) (by omega) (by omega)
    cases b with
    | false =>
      obtain ⟨x, hx, hr⟩ := plain
      refine ⟨x, ?_, hr⟩
      exact Ev.step (fun k => by simp only [spec_A2Nets.l0]; rfl) (ev_pos (by omega) (ev_bind0 e1 (ev_bind0 e2 (ev_neg Bool.false_ne_true hx))))
    | true =>
      by_cases hl : 0 < out.length
      · obtain ⟨j, i4, s4, e3, j0, j1, q4, q5⟩ := pick_f h i3 s3 (out.length : Int) (by omega) (by omega) (by omega) (by omega)
        obtain ⟨J, rfl⟩ : ∃ J : Nat, j = (J : Int) := ⟨j.toNat, by omega⟩
        have hJ : J < out.length := by omega
        have hr0 : rd out (J : Int) = out[J] := getD_lt out 0 J hJ
        have hv := hb out[J] (List.getElem_mem hJ)
        have en : wrap64 (-(rd out (J : Int))) = -out[J] := by rw [hr0, wrap_id (by omega) (by omega)]
        obtain ⟨x, hx, hr⟩ := add (-out[J]) i4 s4 (by omega) (by omega) (by omega) (by omega)
        refine ⟨x, ?_, hr⟩
        refine Ev.step (fun k => by simp only [spec_A2Nets.l0]; rfl) (ev_pos (by omega) (ev_bind0 e1 (ev_bind0 e2 ?_)))
        refine ev_pos rfl ?_
        refine ev_pos (by omega) ?_
        refine ev_bind0 e3 ?_
        refine ev_pos (by show (0 : Int) ≤ (J : Int); omega) ?_
        refine ev_pos (by show (J : Int) < (out.length : Int); omega) ?_
        dsimp only
        rw [en]
        exact hx
      · obtain ⟨x, hx, hr⟩ := plain
        refine ⟨x, ?_, hr⟩
        refine Ev.step (fun k => by simp only [spec_A2Nets.l0]; rfl) (ev_pos (by omega) (ev_bind0 e1 (ev_bind0 e2 ?_)))
        refine ev_pos rfl ?_
        exact ev_neg (by omega) hx
theorem nets_ev {c : List Int} (h : byteL c) : ∃ x, Ev (fun k => spec_A2Nets.f k c) x ∧ good x ∧ x.length ≤ 9 := by
  unfold spec_A2Nets.f
  obtain ⟨n, i2, s2, e, n0, n1, q0, q1⟩ := pick_f h 0 0 9 (by omega) (by omega) (by omega) (by omega)
  obtain ⟨N, rfl⟩ : ∃ N : Nat, n = (N : Int) := ⟨n.toNat, by omega⟩
  obtain ⟨x, hx, hr⟩ := nets_loop h N [] i2 s2 (by simp; omega) (by omega) (by omega) (by simp)
  exact ⟨x, ev_bind0 (a := (c, 0, 0)) rfl (ev_bind0 e hx), hr⟩
end Go.Proofs.YtcghnnhhgngddaaDoor.PuDrawNSettled
