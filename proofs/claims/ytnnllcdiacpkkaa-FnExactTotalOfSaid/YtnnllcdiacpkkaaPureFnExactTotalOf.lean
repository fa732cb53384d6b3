/- For all lists of terms the program's TotalOf returns what the reference's returns; no condition. -/
import Derived.Test.YtnnllcdiacpkkaaMSx0
import Derived.Test.YtnnllcdiacpkkaaMSx11
import Derived.Test.YtnnllcdiacpkkaaMSx12
import Derived.Test.YtnnllcdiacpkkaaMSx13
import Derived.Test.YtnnllcdiacpkkaaMSx14
import Derived.Test.YtnnllcdiacpkkaaMSx15
import Derived.Test.YtnnllcdiacpkkaaMSx16
import Derived.Test.YtnnllcdiacpkkaaMSx2
import Derived.Test.YtnnllcdiacpkkaaMSx3
import Derived.Test.YtnnllcdiacpkkaaEv
namespace Go.Proofs.Ytnnllcdiacpkkaa.Pure
open Go.RowKit Go.Proofs.Ytnnllcdiacpkkaa.MS Go.Proofs.YtnnllcdiacpkkaaW.PrintWords Go.Proofs.YtnnllcdiacpkkaaW.PrintLast Go.Proofs.Ytnnllcdiacpkkaa.Evs
set_option linter.unusedVariables false
set_option linter.unusedSimpArgs false

def okAmount (a : Int) : Bool := decide (0 ≤ a ∧ a ≤ 100000000)
def okDay (a : Int) : Bool := decide (0 ≤ a ∧ a ≤ 40000)
theorem amount_i (a : Int) : impl_isAmount.f a = some (okAmount a) := by
  unfold impl_isAmount.f okAmount
  by_cases h : a ≥ 0 <;> simp [h, show (0 ≤ a) = (a ≥ 0) from rfl]
theorem day_i (a : Int) : impl_isDay.f a = some (okDay a) := by
  unfold impl_isDay.f okDay
  by_cases h : a ≥ 0 <;> simp [h, show (0 ≤ a) = (a ≥ 0) from rfl]
theorem amount_s (a : Int) : spec_l03Amount.f a = some (okAmount a) := by
  unfold spec_l03Amount.f spec_l00In.f okAmount
  by_cases h : a ≥ 0 <;> simp [h, show (0 ≤ a) = (a ≥ 0) from rfl]
theorem day_s (a : Int) : spec_l03Day.f a = some (okDay a) := by
  unfold spec_l03Day.f spec_l00In.f okDay
  by_cases h : a ≥ 0 <;> simp [h, show (0 ≤ a) = (a ≥ 0) from rfl]

abbrev TI := S78
abbrev TL := S80
def toT (z : TL) : TI := ⟨z.f0, z.f1, z.f2, z.f3⟩
theorem rdL (l : List TL) (i : Nat) (h : i < l.length) : rd_T80 l (i : Int) = l[i] := getD_lt l _ i h
theorem rdI (l : List TI) (i : Nat) (h : i < l.length) : rd_T78 l (i : Int) = l[i] := getD_lt l _ i h
theorem sz (l : List TL) (n : Int) (h0 : 0 ≤ n) (h1 : n ≤ 1048576) (h : l.length ≤ maxLen) : laws_szTermS.f l n = some (if n - l.length < 0 then -1 else n - l.length) := by
  unfold laws_szTermS.f
  unfold maxLen at h
  rw [wrap_id (by omega) (by omega)]
  split <;> rfl
theorem toS_ev (l : List TL) (h : l.length ≤ 1048576) : Ev (fun k => laws_toTermS.f k l) (l.map toT) := by
  unfold laws_toTermS.f
  refine ev_pos (by omega) (ev_pos (by simpa using by omega) ?_)
  have key2 : ∀ i : Nat, i ≤ l.length → Ev (fun k => laws_toTermS.l0 k l ((l.take i).map toT ++ List.replicate (l.length - i) z78) (i : Int)) (l.map toT) := by
    intro i hi
    obtain ⟨d, hd⟩ : ∃ d, l.length - i = d := ⟨_, rfl⟩
    induction d generalizing i with
    | zero =>
      have : i = l.length := by omega
      subst this
      refine Ev.step (f := fun _ => some (l.map toT)) (fun k => ?_) (Ev.now _)
      simp only [laws_toTermS.l0]
      rw [if_neg (by omega)]
      simp
    | succ d ih =>
      have hlt : i < l.length := by omega
      have h2 := ih (i + 1) (by omega) (by omega)
      refine Ev.step (fun k => ?_) h2
      simp only [laws_toTermS.l0]
      rw [if_pos (by omega), if_pos (by omega), rdL l i hlt]
      simp only [laws_toTerm.f, Option.bind_some]
      rw [if_pos (by simp; omega), wrap_up hlt (by omega)]
      rw [show ((i : Int)).toNat = i from Int.toNat_natCast i]
      have hs := set_front toT l z78 i hlt
      rw [show (⟨l[i].f0, l[i].f1, l[i].f2, l[i].f3⟩ : TI) = toT l[i] from rfl, hs]
      rfl
  simpa using key2 0 (by omega)
theorem eqS_refl (a : List TI) (h : a.length ≤ maxLen) : Ev (fun k => laws_eqTermS.f k a a) true := by
  unfold laws_eqTermS.f
  unfold maxLen at h
  refine ev_pos rfl ?_
  have key : ∀ i : Nat, i ≤ a.length → ∀ _ : Unit, Ev (fun k => laws_eqTermS.l0 k a a (i : Int)) true :=
    fun i hi => ev_for (n := a.length) (G := fun k (_ : Unit) i => laws_eqTermS.l0 k a a i) (F := fun _ _ => true) (fun i hi ih _ => by
      refine Ev.step (fun k => ?_) (ih ())
      simp only [laws_eqTermS.l0]
      rw [if_pos (by omega), if_pos (by omega), if_pos (by omega), wrap_up hi (by omega)]
      simp [laws_eqTerm.f]) (fun _ => by
      refine Ev.step (f := fun _ => some true) (fun k => ?_) (Ev.now _)
      simp only [laws_eqTermS.l0]
      rw [if_neg (by omega)]) i hi
  exact key 0 (by omega) ()

def okT (z : TI) : Bool := okAmount z.f0 && (okAmount z.f1 && (okAmount z.f2 && okAmount z.f3))
def s1 (l : List TI) : Int := (l.map (·.f1)).sum
def s2 (l : List TI) : Int := (l.map (·.f2)).sum
def fin (a b : Int) : Int × Int × Int := if a > 100000000 then (0, 0, 3) else if b > 100000000 then (0, 0, 3) else (a, b, 0)
def total (l : List TI) : Int × Int × Int := if l.length ≤ 400 ∧ l.all okT = true then fin (s1 l) (s2 l) else (0, 0, 2)
theorem all_drop (l : List TI) (i : Nat) (h : i < l.length) : (l.drop i).all okT = (okT l[i] && (l.drop (i + 1)).all okT) := by
  rw [List.drop_eq_getElem_cons h]; rfl
theorem s1_drop (l : List TI) (i : Nat) (h : i < l.length) : s1 (l.drop i) = l[i].f1 + s1 (l.drop (i + 1)) := by
  rw [List.drop_eq_getElem_cons h]; rfl
theorem s2_drop (l : List TI) (i : Nat) (h : i < l.length) : s2 (l.drop i) = l[i].f2 + s2 (l.drop (i + 1)) := by
  rw [List.drop_eq_getElem_cons h]; rfl
theorem ok_bd {z : TI} (h : okT z = true) : (0 ≤ z.f1 ∧ z.f1 ≤ 100000000) ∧ (0 ≤ z.f2 ∧ z.f2 ≤ 100000000) := by
  simp only [okT, okAmount, Bool.and_eq_true, decide_eq_true_eq] at h
  exact ⟨h.2.1, h.2.2.1⟩

theorem impl_ev (l : List TI) (hl : l.length ≤ maxLen) : Ev (fun k => impl_TotalOf.f k l) (total l) := by
  unfold impl_TotalOf.f total
  unfold maxLen at hl
  by_cases h4 : l.length ≤ 400
  · refine ev_neg (by omega) ?_
    have key := fun (i : Nat) (hi : i ≤ l.length) => ev_forI (n := l.length) (G := fun k (s : Int × Int) i => impl_TotalOf.l0 k s.1 s.2 l (l.length : Int) i)
      (F := fun s i => if (l.drop i).all okT = true then fin (s.1 + s1 (l.drop i)) (s.2 + s2 (l.drop i)) else (0, 0, 2))
      (I := fun s i => 0 ≤ s.1 ∧ s.1 ≤ (i : Int) * 100000000 ∧ 0 ≤ s.2 ∧ s.2 ≤ (i : Int) * 100000000)
      (fun i hi ih s hI => by
        have hS : ∀ k, impl_TotalOf.l0 (k + 1) s.1 s.2 l (l.length : Int) (i : Int) = if okT l[i] = true then impl_TotalOf.l0 k (wrap64 (s.1 + l[i].f1)) (wrap64 (s.2 + l[i].f2)) l (l.length : Int) ((i : Int) + 1) else some (0, 0, 2) := by
          intro k
          simp only [impl_TotalOf.l0]
          rw [if_pos (by omega), if_pos (by omega), if_pos (by omega), rdI l i hi, wrap_up hi (by omega)]
          simp only [amount_i, Option.bind_some, okT]
          by_cases h0 : okAmount l[i].f0 = true <;> by_cases h1 : okAmount l[i].f1 = true <;> by_cases h2 : okAmount l[i].f2 = true <;> by_cases h3 : okAmount l[i].f3 = true <;> simp [h0, h1, h2, h3]
        by_cases hk : okT l[i] = true
        · have hb := ok_bd hk
          refine ev_eq (Ev.step (f := fun k => impl_TotalOf.l0 k (s.1 + l[i].f1) (s.2 + l[i].f2) l (l.length : Int) ((i : Int) + 1)) (fun k => ?_) (ih (s.1 + l[i].f1, s.2 + l[i].f2) ⟨by dsimp only; omega, by dsimp only; omega, by dsimp only; omega, by dsimp only; omega⟩)) ?_
          · rw [hS, if_pos hk, wrap_id (by omega) (by omega), wrap_id (by omega) (by omega)]
          · rw [all_drop l i hi, hk, s1_drop l i hi, s2_drop l i hi]
            simp [Int.add_assoc]
        · refine ev_eq (Ev.step (f := fun _ => some (0, 0, 2)) (fun k => ?_) (Ev.now _)) ?_
          · rw [hS, if_neg hk]
          · rw [all_drop l i hi, Bool.eq_false_iff.mpr hk]; simp)
      (fun s hI => by
        refine ev_eq (Ev.step (f := fun _ => some (fin s.1 s.2)) (fun k => ?_) (Ev.now _)) ?_
        · simp only [impl_TotalOf.l0]
          rw [if_neg (by omega)]
          unfold fin
          by_cases h1 : s.1 > 100000000
          · rw [if_pos h1, if_pos h1]
          · rw [if_neg h1, if_neg h1]
            by_cases h2 : s.2 > 100000000
            · rw [if_pos h2, if_pos h2]
            · rw [if_neg h2, if_neg h2]
        · simp [s1, s2]) i hi
    refine ev_eq (key 0 (by omega) (0, 0) (by simp)) ?_
    simp [h4]
  · refine ev_pos (by omega) (ev_eq (Ev.now _) ?_)
    rw [if_neg (fun h => h4 h.1)]

theorem spec_ev (l : List TI) (hl : l.length ≤ maxLen) : Ev (fun k => spec_TotalOf.f k l) (total l) := by
  unfold spec_TotalOf.f total
  unfold maxLen at hl
  -- the sums
  have sums := fun (h4 : l.length ≤ 400) (ha : l.all okT = true) (i : Nat) (hi : i ≤ l.length) => ev_forI (n := l.length) (G := fun k (s : Int × Int) i => spec_TotalOf.l1 k l s.1 s.2 i)
      (F := fun s i => fin (s.1 + s1 (l.drop i)) (s.2 + s2 (l.drop i)))
      (I := fun s i => 0 ≤ s.1 ∧ s.1 ≤ (i : Int) * 100000000 ∧ 0 ≤ s.2 ∧ s.2 ≤ (i : Int) * 100000000)
      (fun i hi ih s hI => by
        have hb := ok_bd (List.all_eq_true.1 ha l[i] (List.getElem_mem hi))
        refine ev_eq (Ev.step (f := fun k => spec_TotalOf.l1 k l (s.1 + l[i].f1) (s.2 + l[i].f2) ((i : Int) + 1)) (fun k => ?_) (ih (s.1 + l[i].f1, s.2 + l[i].f2) ⟨by dsimp only; omega, by dsimp only; omega, by dsimp only; omega, by dsimp only; omega⟩)) ?_
        · simp only [spec_TotalOf.l1]
          rw [if_pos (by omega), if_pos (by omega), rdI l i hi, wrap_up hi (by omega), wrap_id (by omega) (by omega), wrap_id (by omega) (by omega)]
        · rw [s1_drop l i hi, s2_drop l i hi]
          simp [Int.add_assoc])
      (fun s hI => by
        refine ev_eq (Ev.step (f := fun _ => some (fin s.1 s.2)) (fun k => ?_) (Ev.now _)) ?_
        · simp only [spec_TotalOf.l1]
          rw [if_neg (by omega)]
          unfold fin
          by_cases h1 : s.1 > 100000000
          · rw [if_pos h1, if_pos h1]
          · rw [if_neg h1, if_neg h1]
            by_cases h2 : s.2 > 100000000
            · rw [if_pos h2, if_pos h2]
            · rw [if_neg h2, if_neg h2]
        · simp [s1, s2]) i hi
  -- the checks
  have hF : ∀ i : Int, 0 ≤ i → Ev (fun k => spec_TotalOf.l0 k l false i) (0, 0, 2) := by
    intro i h0
    by_cases hi : i < (l.length : Int)
    · refine Ev.step (f := fun k => spec_TotalOf.j1 k l false i false) (fun k => by simp only [spec_TotalOf.l0]; rw [if_pos hi]) ?_
      exact Ev.step (f := fun _ => some (0, 0, 2)) (fun k => by simp only [spec_TotalOf.j1]; rfl) (Ev.now _)
    · refine Ev.step (f := fun k => spec_TotalOf.j1 k l false i false) (fun k => by simp only [spec_TotalOf.l0]; rw [if_neg hi]) ?_
      exact Ev.step (f := fun _ => some (0, 0, 2)) (fun k => by simp only [spec_TotalOf.j1]; rfl) (Ev.now _)
  by_cases h4 : l.length ≤ 400
  · have key := fun (i : Nat) (hi : i ≤ l.length) => ev_forI (n := l.length) (G := fun k (_ : Unit) i => spec_TotalOf.l0 k l true i)
      (F := fun _ i => if l.all okT = true then fin (s1 l) (s2 l) else (0, 0, 2)) (I := fun _ i => (l.take i).all okT = true)
      (fun i hi ih _ hI => by
        have hS : ∀ k, spec_TotalOf.l0 (k + 2) l true (i : Int) = if okT l[i] = true then spec_TotalOf.l0 k l true ((i : Int) + 1) else spec_TotalOf.l0 k l false ((i : Int) + 1) := by
          intro k
          simp only [spec_TotalOf.l0, spec_TotalOf.j1]
          rw [if_pos (by omega), if_pos trivial, if_pos (by omega), if_pos (by omega), rdI l i hi, wrap_up hi (by omega)]
          simp only [amount_s, Option.bind_some, okT]
          by_cases h0 : okAmount l[i].f0 = true <;> by_cases h1 : okAmount l[i].f1 = true <;> by_cases h2 : okAmount l[i].f2 = true <;> by_cases h3 : okAmount l[i].f3 = true <;> simp [h0, h1, h2, h3]
        have ht : (l.take (i + 1)).all okT = ((l.take i).all okT && okT l[i]) := by
          rw [List.take_succ_eq_append_getElem hi, List.all_append]; simp
        refine Ev.step (f := fun k => spec_TotalOf.l0 (k + 1) l true (i : Int)) (fun k => rfl) (Ev.step (fun k => hS k) ?_)
        by_cases hk : okT l[i] = true
        · refine ev_pos hk (ih () (by rw [ht, hI, hk]; rfl))
        · refine ev_neg hk (ev_eq (hF _ (by omega)) ?_)
          rw [if_neg]
          intro h
          exact hk (List.all_eq_true.1 h l[i] (List.getElem_mem hi)))
      (fun _ hI => by
        have ha : l.all okT = true := by rwa [List.take_of_length_le (Nat.le_refl _)] at hI
        refine Ev.step (f := fun k => spec_TotalOf.j1 k l true (l.length : Int) false) (fun k => by simp only [spec_TotalOf.l0]; rw [if_neg (by omega)]) ?_
        refine Ev.step (f := fun k => spec_TotalOf.l1 k l 0 0 0) (fun k => by simp only [spec_TotalOf.j1]; rfl) ?_
        refine ev_eq (sums h4 ha 0 (by omega) (0, 0) (by simp)) ?_
        simp [ha]) i hi
    rw [decide_eq_true (show (l.length : Int) ≤ 400 by omega)]
    refine ev_eq (key 0 (by omega) () (by simp)) ?_
    simp [h4]
  · rw [decide_eq_false (show ¬ (l.length : Int) ≤ 400 by omega)]
    refine ev_eq (hF 0 (by omega)) ?_
    rw [if_neg (fun h => h4 h.1)]

theorem FnExactTotalOf (a : List TL) (ha : a.length ≤ maxLen) (_ : ∀ z ∈ a, (Lit.int .i64 z.f0).wf = true ∧ (Lit.int .i64 z.f1).wf = true ∧ (Lit.int .i64 z.f2).wf = true ∧ (Lit.int .i64 z.f3).wf = true) : ∃ k, laws_FnExactTotalOf.f k a = some true := by
  refine Ev.rounds (r := true) ?_
  unfold laws_FnExactTotalOf.f
  refine ev_bind0 (sz a 1048576 (by omega) (by omega) ha) ?_
  by_cases h1 : (1048576 : Int) - a.length < 0
  · rw [if_pos h1]; exact Ev.now _
  rw [if_neg h1]
  refine ev_neg h1 ?_
  have ta := toS_ev a (by omega)
  have la : (a.map toT).length ≤ maxLen := by rw [List.length_map]; exact ha
  refine Ev.bind ta (Ev.bind (spec_ev _ la) (Ev.bind ta (Ev.bind (impl_ev _ la) ?_)))
  refine ev_pos rfl (ev_pos rfl ?_)
  simp only [bne_self_eq_false]
  refine Ev.step (fun k => by simp only [laws_FnExactTotalOf.j0]; rfl) (Ev.bind ta (Ev.bind (eqS_refl _ la) ?_))
  exact ev_pos rfl (Ev.now _)
end Go.Proofs.Ytnnllcdiacpkkaa.Pure
