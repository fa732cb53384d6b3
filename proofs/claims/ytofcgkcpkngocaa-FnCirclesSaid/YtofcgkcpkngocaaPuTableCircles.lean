/- Tables of what each one owes to each other one. -/
import Derived.Test.YtofcgkcpkngocaaMCirclesx0
import Derived.Test.YtofcgkcpkngocaaMCirclesx2
import Derived.Test.YtofcgkcpkngocaaMCirclesx3
import Derived.Test.YtofcgkcpkngocaaVCirclesEv
import Derived.Test.YtofcgkcpkngocaaVCirclesArr
import Derived.Test.YtofcgkcpkngocaaPuDebtCircles
namespace Go.Proofs.Ytofcgkcpkngocaa.PuTableCircles
open Go.RowKit MCircles Go.Proofs.YtofcgkcpkngocaaW.PrintWords Go.Proofs.YtofcgkcpkngocaaW.PrintLast Evs PuDebtCircles
set_option linter.unusedVariables false
set_option linter.unusedSimpArgs false
abbrev Tb := Vector Int 256
def tg (t : Tb) (i k : Nat) : Int := t.toList.getD (i * 16 + k) 0
theorem vrd2_n (t : Tb) (i k : Int) : Arr.vrd2 16 t i k = tg t i.toNat k.toNat := rfl
theorem vrow_n (t : Tb) (i k : Int) (h : k.toNat < 16) : Arr.vrd (Arr.vrow 16 t i) k = tg t i.toNat k.toNat := by
  unfold Arr.vrd tg
  rw [Arr.vrow_getD 16 t i k.toNat h]
theorem tg_set (t : Tb) (i k a b : Nat) (y : Int) (hk : k < 16) (hi : i < 16) (hb : b < 16) (ha : a < 16) : tg (Arr.vst2 16 t (i : Int) (k : Int) y) a b = if a = i ∧ b = k then y else tg t a b := by
  unfold tg Arr.vst2
  rw [Vector.toList_setIfInBounds, Int.toNat_natCast, Int.toNat_natCast, List.getD_eq_getElem?_getD, List.getD_eq_getElem?_getD, List.getElem?_set]
  by_cases h : a = i ∧ b = k
  · obtain ⟨rfl, rfl⟩ := h
    have hlt : a * 16 + b < 256 := by omega
    simp [hlt]
  · rw [if_neg (show ¬ (i * 16 + k = a * 16 + b) by omega), if_neg h]
theorem tg_ext (t u : Tb) (h : ∀ i k, i < 16 → k < 16 → tg t i k = tg u i k) : t = u := by
  refine Arr.ext_getD t u (fun q hq => ?_)
  have := h (q / 16) (q % 16) o_ o_
  unfold tg at this
  rwa [show q / 16 * 16 + q % 16 = q by omega] at this
def zeroT : Tb := (Vector.replicate 256 0 : Vector Int 256)
theorem tg_zero (i k : Nat) : tg zeroT i k = 0 := by
  unfold tg zeroT
  rw [List.getD_eq_getElem?_getD]
  simp only [Vector.toList_replicate, List.getElem?_replicate]
  split <;> rfl
def addT (t : Tb) (d : D) : Tb := Arr.vst2 16 t d.f0 d.f1 (wrap64 (Arr.vrd2 16 t d.f0 d.f1 + d.f2))
def sumT (l : List D) : Tb := l.foldl addT zeroT
theorem foldT_drop (l : List D) (t : Tb) (i : Nat) (h : i < l.length) : (l.drop i).foldl addT t = (l.drop (i + 1)).foldl addT (addT t l[i]) := by
  rw [List.drop_eq_getElem_cons h]; rfl
theorem valid_bd {p : Int} {l : List D} (h : valid p l = true) : 1 ≤ p ∧ p ≤ 16 ∧ l.length ≤ 60 ∧ ∀ d ∈ l, 0 ≤ d.f0 ∧ d.f0 < p ∧ 0 ≤ d.f1 ∧ d.f1 < p ∧ d.f0 ≠ d.f1 ∧ 1 ≤ d.f2 ∧ d.f2 ≤ 100000000 := by
  simp only [valid, Bool.and_eq_true, decide_eq_true_eq, List.all_eq_true] at h
  exact ⟨h.1.1, h.1.2.1, h.1.2.2, fun d hd => of_decide_eq_true (h.2 d hd)⟩
theorem sumsS_ev (p : Int) (l : List D) (hv : valid p l = true) : Ev (fun k => spec_l02Sums.f k l) (sumT l) := by
  obtain ⟨hp, hp2, h60, hd⟩ := valid_bd hv
  unfold spec_l02Sums.f sumT
  refine ev_for (n := l.length) (G := fun k (s : Tb) i => spec_l02Sums.l0 k l i s) (F := fun s i => (l.drop i).foldl addT s) (fun i hi ih s => ?_) (fun s => ?_) 0 o_ zeroT
  · have hb := hd l[i] (List.getElem_mem hi)
    refine ev_eq (Ev.step (fun k => ?_) (ih (addT s l[i]))) (foldT_drop l s i hi).symm
    simp only [spec_l02Sums.l0]
    rw [if_pos o_, if_pos o_, rdD l i hi, if_pos o_, if_pos o_, if_pos o_, if_pos o_, wrap_up hi o_]
    rfl
  · refine ev_eq (Ev.step (f := fun _ => some s) (fun k => ?_) (Ev.now _)) (by rw [List.drop_length]; rfl)
    simp only [spec_l02Sums.l0]
    rw [if_neg o_]
theorem sumsI_ev (p : Int) (l : List D) (hv : valid p l = true) : Ev (fun k => impl_sumsOf.f k l) (sumT l) := by
  obtain ⟨hp, hp2, h60, hd⟩ := valid_bd hv
  unfold impl_sumsOf.f sumT
  refine ev_for (n := l.length) (G := fun k (s : Tb) i => impl_sumsOf.l0 k l (l.length : Int) i s) (F := fun s i => (l.drop i).foldl addT s) (fun i hi ih s => ?_) (fun s => ?_) 0 o_ zeroT
  · have hb := hd l[i] (List.getElem_mem hi)
    refine ev_eq (Ev.step (fun k => ?_) (ih (addT s l[i]))) (foldT_drop l s i hi).symm
    simp only [impl_sumsOf.l0]
    rw [if_pos o_, if_pos o_, if_pos o_, rdD l i hi, if_pos o_, if_pos o_, if_pos o_, if_pos o_, wrap_up hi o_]
    rfl
  · refine ev_eq (Ev.step (f := fun _ => some s) (fun k => ?_) (Ev.now _)) (by rw [List.drop_length]; rfl)
    simp only [impl_sumsOf.l0]
    rw [if_neg o_]
def okP (p a : Int) : Bool := decide (0 ≤ a ∧ a < p)
def arePs (p : Int) (l : List Int) : Bool := l.all (okP p)
def codeD (p : Int) (l : List D) (who : List Int) : Int := if valid p l = true then (if arePs p who = true then 0 else 2) else 1
theorem arePs_drop (p : Int) (l : List Int) (i : Nat) (h : i < l.length) : arePs p (l.drop i) = (okP p l[i] && arePs p (l.drop (i + 1))) := by
  unfold arePs
  rw [List.drop_eq_getElem_cons h]; rfl
theorem peopleI_ev (p : Int) (l : List Int) (hl : l.length ≤ maxLen) : Ev (fun k => impl_arePeople.f k p l) (arePs p l) := by
  unfold impl_arePeople.f
  unfold maxLen at hl
  refine ev_eq (ev_for (n := l.length) (G := fun k (_ : Unit) i => impl_arePeople.l0 k p l (l.length : Int) i) (F := fun _ i => arePs p (l.drop i)) (fun i hi ih s => ?_) (fun s => ?_) 0 o_ ()) (by simp)
  · rw [arePs_drop p l i hi]
    have hr : rd l (i : Int) = l[i] := getD_lt l _ i hi
    by_cases h1 : l[i] < 0
    · refine ev_eq (Ev.step (f := fun _ => some false) (fun k => ?_) (Ev.now _)) ?_
      · simp only [impl_arePeople.l0]
        rw [if_pos o_, if_pos o_, if_pos o_, hr, if_pos h1]
      · rw [show okP p l[i] = false from decide_eq_false o_]; rfl
    · by_cases h2 : l[i] ≥ p
      · refine ev_eq (Ev.step (f := fun _ => some false) (fun k => ?_) (Ev.now _)) ?_
        · simp only [impl_arePeople.l0]
          rw [if_pos o_, if_pos o_, if_pos o_, hr, if_neg h1, if_pos h2]
        · rw [show okP p l[i] = false from decide_eq_false o_]; rfl
      · refine ev_eq (Ev.step (fun k => ?_) (ih ())) ?_
        · simp only [impl_arePeople.l0]
          rw [if_pos o_, if_pos o_, if_pos o_, hr, if_neg h1, if_neg h2, wrap_up hi o_]
        · rw [show okP p l[i] = true from decide_eq_true o_]; rfl
  · refine ev_eq (Ev.step (f := fun _ => some true) (fun k => ?_) (Ev.now _)) (by rw [List.drop_length]; rfl)
    simp only [impl_arePeople.l0]
    rw [if_neg o_]
theorem codeI_ev (p : Int) (l : List D) (who : List Int) (hl : l.length ≤ maxLen) (hw : who.length ≤ maxLen) : Ev (fun k => impl_debtsCode.f k p l who) (codeD p l who) := by
  unfold impl_debtsCode.f codeD
  refine Ev.bind (ValidI_ev p l hl) ?_
  by_cases hv : valid p l = true
  · refine ev_ifp hv (ev_pos hv (Ev.bind (peopleI_ev p who hw) ?_))
    by_cases h2 : arePs p who = true
    · exact ev_ifp h2 (ev_pos h2 (Ev.now _))
    · exact ev_ifn h2 (ev_neg h2 (Ev.now _))
  · exact ev_ifn hv (ev_neg hv (Ev.now _))
theorem code_zero {p : Int} {l : List D} {who : List Int} (h : codeD p l who = 0) : valid p l = true ∧ ∀ a ∈ who, 0 ≤ a ∧ a < p := by
  unfold codeD at h
  by_cases hv : valid p l = true
  · rw [if_pos hv] at h
    by_cases h2 : arePs p who = true
    · refine ⟨hv, fun a ha => ?_⟩
      exact of_decide_eq_true (List.all_eq_true.1 h2 a ha)
    · rw [if_neg h2] at h; cases h
  · rw [if_neg hv] at h; cases h
def owedR (p : Int) (l : List D) (a b : Int) : Int × Int := if codeD p l [a, b] = 0 then (tg (sumT l) a.toNat b.toNat, 0) else (0, codeD p l [a, b])
theorem OwedI_ev (p : Int) (l : List D) (a b : Int) (hl : l.length ≤ maxLen) : Ev (fun k => impl_OwedBetween.f k p l a b) (owedR p l a b) := by
  unfold impl_OwedBetween.f owedR
  refine Ev.bind (codeI_ev p l [a, b] hl (by simp [maxLen])) ?_
  by_cases h : codeD p l [a, b] = 0
  · obtain ⟨hv, hw⟩ := code_zero h
    obtain ⟨hp, hp2, h60, hd⟩ := valid_bd hv
    have h1 := hw a (by simp)
    have h2 := hw b (by simp)
    refine ev_ifp h (ev_pos h (Ev.bind (sumsI_ev p l hv) ?_))
    refine ev_pos o_ (ev_pos o_ (ev_pos o_ (ev_pos o_ (ev_eq (Ev.now _) ?_))))
    rw [vrow_n _ _ _ o_]
  · exact ev_ifn h (ev_neg h (Ev.now _))
end Go.Proofs.Ytofcgkcpkngocaa.PuTableCircles
