/- Who can pay all that he owes. -/
import Derived.Test.YtofcgkcpkngocaaMPaidx0
import Derived.Test.YtofcgkcpkngocaaMPaidx10
import Derived.Test.YtofcgkcpkngocaaMPaidx11
import Derived.Test.YtofcgkcpkngocaaMPaidx12
import Derived.Test.YtofcgkcpkngocaaMPaidx13
import Derived.Test.YtofcgkcpkngocaaVPaidEv
import Derived.Test.YtofcgkcpkngocaaVPaidArr
import Derived.Test.YtofcgkcpkngocaaPuDebtPaid
import Derived.Test.YtofcgkcpkngocaaPuTablePaid
import Derived.Test.YtofcgkcpkngocaaPuTableLPaid
namespace Go.Proofs.Ytofcgkcpkngocaa.PuCanPaid
open Go.RowKit Go.Proofs.Ytofcgkcpkngocaa.MPaid Go.Proofs.YtofcgkcpkngocaaW.PrintWords Go.Proofs.YtofcgkcpkngocaaW.PrintLast Go.Proofs.YtofcgkcpkngocaaW.PrintMore Go.Proofs.Ytofcgkcpkngocaa.Evs Go.Proofs.Ytofcgkcpkngocaa.PuDebtPaid Go.Proofs.Ytofcgkcpkngocaa.PuTablePaid Go.Proofs.Ytofcgkcpkngocaa.PuTableLPaid
set_option linter.unusedVariables false
set_option linter.unusedSimpArgs false
/-! how large a table's cells are -/
def bdT (t : Tb) (m : Int) : Prop := ∀ a b, a < 16 → b < 16 → 0 ≤ tg t a b ∧ tg t a b ≤ m
theorem addT_tg {t : Tb} {m : Int} (h : bdT t m) (hm : 0 ≤ m) (hm2 : m ≤ 1000000000000) (d : D) (h0 : 0 ≤ d.f0 ∧ d.f0 < 16) (h1 : 0 ≤ d.f1 ∧ d.f1 < 16) (h2 : 1 ≤ d.f2 ∧ d.f2 ≤ 100000000) (a b : Nat) (ha : a < 16) (hb : b < 16) :
    tg (addT t d) a b = if a = d.f0.toNat ∧ b = d.f1.toNat then tg t a b + d.f2 else tg t a b := by
  have e : addT t d = Arr.vst2 16 t ((d.f0.toNat : Nat) : Int) ((d.f1.toNat : Nat) : Int) (wrap64 (tg t d.f0.toNat d.f1.toNat + d.f2)) := by
    unfold addT
    rw [vrd2_n, show ((d.f0.toNat : Nat) : Int) = d.f0 by omega, show ((d.f1.toNat : Nat) : Int) = d.f1 by omega]
  have h3 := h d.f0.toNat d.f1.toNat (by omega) (by omega)
  rw [e, tg_set t _ _ a b _ (by omega) (by omega) hb ha, wrap_id (by omega) (by omega)]
  by_cases hc : a = d.f0.toNat ∧ b = d.f1.toNat
  · rw [if_pos hc, if_pos hc, hc.1, hc.2]
  · rw [if_neg hc, if_neg hc]
theorem foldT_bd (p : Nat) : ∀ (l : List D) (t : Tb) (m : Int), bdT t m → (∀ a b, a < 16 → b < 16 → p ≤ b → tg t a b = 0) → 0 ≤ m → m + l.length * 100000000 ≤ 1000000000000 → (∀ d ∈ l, (0 ≤ d.f0 ∧ d.f0 < 16) ∧ (0 ≤ d.f1 ∧ d.f1 < 16 ∧ d.f1 < p) ∧ (1 ≤ d.f2 ∧ d.f2 ≤ 100000000)) → bdT (l.foldl addT t) (m + l.length * 100000000) ∧ (∀ a b, a < 16 → b < 16 → p ≤ b → tg (l.foldl addT t) a b = 0)
  | [], t, m, h, hz, _, _, _ => ⟨by simpa using h, hz⟩
  | d :: l, t, m, h, hz, hm, hl, hd => by
    obtain ⟨h0, h1, h2⟩ := hd d (List.mem_cons_self ..)
    rw [List.length_cons] at hl ⊢
    have ht := addT_tg h hm (by omega) d h0 ⟨h1.1, h1.2.1⟩ h2
    have := foldT_bd p l (addT t d) (m + 100000000) (fun a b ha hb => by
        have := h a b ha hb
        rw [ht a b ha hb]; split <;> omega) (fun a b ha hb hp => by
        have := hz a b ha hb hp
        rw [ht a b ha hb]; split <;> omega) (by omega) (by omega) (fun x hx => hd x (List.mem_cons_of_mem _ hx))
    rw [show m + ((l.length + 1 : Nat) : Int) * 100000000 = m + 100000000 + l.length * 100000000 by omega]
    exact this
theorem sumT_bd {p : Int} {l : List D} (hv : valid p l = true) : bdT (sumT l) 6000000000 ∧ (∀ a b, a < 16 → b < 16 → p.toNat ≤ b → tg (sumT l) a b = 0) := by
  obtain ⟨hp, hp2, h60, hd⟩ := valid_bd hv
  have := foldT_bd p.toNat l zeroT 0 (fun a b _ _ => by rw [tg_zero]; omega) (fun a b _ _ _ => tg_zero a b) (by omega) (by omega) (fun d hd1 => by have := hd d hd1; omega)
  refine ⟨fun a b ha hb => ?_, this.2⟩
  have h2 := this.1 a b ha hb
  unfold sumT
  omega
/-! what one owes -/
def osum (t : Tb) (q : Nat) : Nat → Int
  | 0 => 0
  | n + 1 => osum t q n + tg t q n
theorem osum_bd {t : Tb} {m : Int} (h : bdT t m) (q : Nat) (hq : q < 16) : ∀ n, n ≤ 16 → 0 ≤ osum t q n ∧ osum t q n ≤ n * m
  | 0, _ => by simp [osum]
  | n + 1, hn => by
    have h1 := osum_bd h q hq n (by omega)
    have h2 := h q n hq (by omega)
    have e3 : ((n + 1 : Nat) : Int) * m = (n : Int) * m + m := by
      rw [show ((n + 1 : Nat) : Int) = (n : Int) + 1 by omega, Int.add_mul, Int.one_mul]
    unfold osum; omega
theorem osum_all {t : Tb} {p : Nat} (hz : ∀ a b, a < 16 → b < 16 → p ≤ b → tg t a b = 0) (q : Nat) (hq : q < 16) : ∀ n, p ≤ n → n ≤ 16 → osum t q n = osum t q p := by
  intro n
  induction n with
  | zero => intro h _; rw [show p = 0 by omega]
  | succ n ih =>
    intro h h16
    by_cases e : p = n + 1
    · rw [e]
    · rw [← ih (by omega) (by omega)]
      show osum t q n + tg t q n = _
      rw [hz q n hq (by omega) (by omega)]; omega
/-! what the others get -/
def addF (t : Tb) (q : Nat) : Nat → Nat → List Int → Option (List Int)
  | 0, _, h => some h
  | n + 1, k, h => if wrap64 (h.getD k 0 + tg t q k) > 100000000 then none else addF t q n (k + 1) (h.set k (wrap64 (h.getD k 0 + tg t q k)))
theorem addF_len (t : Tb) (q : Nat) : ∀ (n k : Nat) (h r : List Int), addF t q n k h = some r → r.length = h.length
  | 0, k, h, r, e => by cases e; rfl
  | n + 1, k, h, r, e => by
    unfold addF at e
    split at e
    · cases e
    · have := addF_len t q n (k + 1) _ r e
      rw [this, List.length_set]
theorem addF_step (t : Tb) (q p k : Nat) (h : List Int) (hk : k < p) : addF t q (p - k) k h = if wrap64 (h.getD k 0 + tg t q k) > 100000000 then none else addF t q (p - (k + 1)) (k + 1) (h.set k (wrap64 (h.getD k 0 + tg t q k))) := by
  rw [show p - k = (p - (k + 1)) + 1 by omega]; rfl
def orErr (o : Option (List Int)) (f : List Int → List Int × Int) : List Int × Int := match o with | none => ([], 3) | some h => f h
theorem gd (l : List Int) (i : Nat) : rd l (i : Int) = l.getD i 0 := rfl
theorem gdb (l : List Bool) (i : Nat) : rdOf false l (i : Int) = l.getD i false := rfl
def Both (G : List Int × Int → Prop) (p : Nat) (t : Tb) (q : Nat) (h : List Int) (pd : List Bool) (out : List Int) (ag : Bool) : Prop :=
  ∃ r : List Int × Int, (r.1.length ≤ 16 ∧ G r) ∧ Ev (fun k => spec_CanPayFrom.l2 k (p : Int) h pd out ag (q : Int) t) r ∧ Ev (fun k => impl_CanPayFrom.l2 k (p : Int) h pd out ag (p : Int) (q : Int) t) r
def Both1 (G : List Int × Int → Prop) (p : Nat) (t : Tb) (h : List Int) (pd : List Bool) (out : List Int) (ag : Bool) : Prop :=
  ∃ r : List Int × Int, (r.1.length ≤ 16 ∧ G r) ∧ Ev (fun k => spec_CanPayFrom.l1 k (p : Int) h pd out ag t) r ∧ Ev (fun k => impl_CanPayFrom.l1 k (p : Int) h pd out ag t) r
theorem addS_ev (p : Nat) (t : Tb) (q : Nat) (hp : p ≤ 16) (hq : q < p) (pd : List Bool) (out : List Int) (f : List Int → List Int × Int) (h : List Int) (hl : h.length = p)
    (hf : ∀ r, addF t q p 0 h = some r → Ev (fun k => spec_CanPayFrom.l2 k (p : Int) r pd out true ((q : Int) + 1) t) (f r)) : Ev (fun k => spec_CanPayFrom.l4 k (p : Int) h pd out true (q : Int) 0 t) (orErr (addF t q p 0 h) f) := by
  refine ev_forI (n := p) (G := fun k (x : List Int) i => spec_CanPayFrom.l4 k (p : Int) x pd out true (q : Int) i t) (F := fun x i => orErr (addF t q (p - i) i x) f) (I := fun x i => x.length = p ∧ addF t q (p - i) i x = addF t q p 0 h) (fun i hi ih x hI => ?_) (fun x hI => ?_) 0 (by omega) h ⟨hl, rfl⟩
  · show Ev _ (orErr (addF t q (p - i) i x) f)
    have hs := addF_step t q p i x hi
    refine Ev.step (fun k => by rw [spec_CanPayFrom.l4, gd, vrd2_nn, wrap_up hi (by omega)]) ?_
    refine ev_pos (by omega) (ev_pos (by omega) (ev_pos (by omega) (ev_pos (by omega) (ev_pos (by omega) (ev_pos (by omega) ?_)))))
    by_cases hb : wrap64 (x.getD i 0 + tg t q i) > 100000000
    · rw [hs, if_pos hb]
      exact ev_pos hb (Ev.now _)
    · rw [if_neg hb] at hs
      have := ih (x.set i (wrap64 (x.getD i 0 + tg t q i))) ⟨by rw [List.length_set]; exact hI.1, by rw [← hs]; exact hI.2⟩
      rw [hs]
      exact ev_neg hb this
  · show Ev _ (orErr (addF t q (p - p) p x) f)
    rw [Nat.sub_self] at hI ⊢
    refine Ev.step (fun k => by rw [spec_CanPayFrom.l4, wrap_up hq (by omega)]) (ev_neg (by omega) (hf x ?_))
    rw [← hI.2]; rfl
theorem addI_ev (p : Nat) (t : Tb) (q : Nat) (hp : p ≤ 16) (hq : q < p) (pd : List Bool) (out : List Int) (f : List Int → List Int × Int) (h : List Int) (hl : h.length = p)
    (hf : ∀ r, addF t q p 0 h = some r → Ev (fun k => impl_CanPayFrom.l2 k (p : Int) r pd out true (p : Int) ((q : Int) + 1) t) (f r)) : Ev (fun k => impl_CanPayFrom.l4 k (p : Int) h pd out true (q : Int) (p : Int) (q : Int) (p : Int) 0 t) (orErr (addF t q p 0 h) f) := by
  refine ev_forI (n := p) (G := fun k (x : List Int) i => impl_CanPayFrom.l4 k (p : Int) x pd out true (q : Int) (p : Int) (q : Int) (p : Int) i t) (F := fun x i => orErr (addF t q (p - i) i x) f) (I := fun x i => x.length = p ∧ addF t q (p - i) i x = addF t q p 0 h) (fun i hi ih x hI => ?_) (fun x hI => ?_) 0 (by omega) h ⟨hl, rfl⟩
  · show Ev _ (orErr (addF t q (p - i) i x) f)
    have hs := addF_step t q p i x hi
    refine Ev.step (fun k => by rw [impl_CanPayFrom.l4, gd, vrd2_nn, wrap_up hi (by omega)]) ?_
    refine ev_pos (by omega) (ev_pos (by omega) (ev_pos (by omega) (ev_pos (by omega) (ev_pos (by omega) (ev_pos (by omega) ?_)))))
    by_cases hb : wrap64 (x.getD i 0 + tg t q i) > 100000000
    · rw [hs, if_pos hb]
      exact ev_pos hb (Ev.now _)
    · rw [if_neg hb] at hs
      have := ih (x.set i (wrap64 (x.getD i 0 + tg t q i))) ⟨by rw [List.length_set]; exact hI.1, by rw [← hs]; exact hI.2⟩
      rw [hs]
      exact ev_neg hb this
  · show Ev _ (orErr (addF t q (p - p) p x) f)
    rw [Nat.sub_self] at hI ⊢
    refine Ev.step (fun k => by rw [impl_CanPayFrom.l4, wrap_up hq (by omega)]) (ev_neg (by omega) (hf x ?_))
    rw [← hI.2]; rfl
/-! one person -/
theorem countF_set : ∀ (l : List Bool) (q : Nat), q < l.length → l.getD q false = false → (l.set q true).count false + 1 = l.count false
  | [], q, h, _ => by simp at h
  | a :: l, 0, _, h => by
    have : a = false := by simpa using h
    subst this
    simp
  | a :: l, q + 1, h, e => by
    have := countF_set l q (by simpa using h) (by simpa using e)
    simp only [List.set_cons_succ, List.count_cons]
    omega
theorem one_both (G : List Int × Int → Prop) (p : Nat) (t : Tb) (hp : 1 ≤ p) (hp2 : p ≤ 16) (hb : bdT t 6000000000) (hz : ∀ a b, a < 16 → b < 16 → p ≤ b → tg t a b = 0) (q : Nat) (hq : q < p) (h : List Int) (pd : List Bool) (out : List Int) (ag : Bool)
    (hl : h.length = p) (hd : pd.length = p) (ho : out.length ≤ 16)
    (skip : (pd.getD q false = true ∨ h.getD q 0 < osum t q p) → Both G p t (q + 1) h pd out ag)
    (pay : pd.getD q false = false → ¬ h.getD q 0 < osum t q p → ∀ r, addF t q p 0 (h.set q (wrap64 (h.getD q 0 - osum t q p))) = some r → r.length = p → Both G p t (q + 1) r (pd.set q true) (out ++ [(q : Int)]) true)
    (err : pd.getD q false = false → ¬ h.getD q 0 < osum t q p → addF t q p 0 (h.set q (wrap64 (h.getD q 0 - osum t q p))) = none → G ([], 3)) : Both G p t q h pd out ag := by
  have e16 : osum t q 16 = osum t q p := osum_all hz q (by omega) 16 hp2 (by omega)
  have ec : ((q + 1 : Nat) : Int) = (q : Int) + 1 := by omega
  obtain ⟨s, hs⟩ : ∃ s, osum t q p = s := ⟨_, rfl⟩
  -- what comes behind the sums
  rw [hs] at skip pay err
  have core : ∃ r : List Int × Int, (r.1.length ≤ 16 ∧ G r) ∧
      Ev (fun k => if 0 ≤ (q : Int) then (if (q : Int) < (pd.length : Int) then (if rdOf false pd (q : Int) = true then (spec_CanPayFrom.j4 k (p : Int) h pd out ag (q : Int) s true t) else (if (q : Int) < (h.length : Int) then (spec_CanPayFrom.j4 k (p : Int) h pd out ag (q : Int) s (decide ((rd h (q : Int)) < s)) t) else none)) else none) else none) r ∧
      Ev (fun k => if 0 ≤ (q : Int) then (if (q : Int) < (pd.length : Int) then (if rdOf false pd (q : Int) = true then (impl_CanPayFrom.j4 k (p : Int) h pd out ag (q : Int) s (p : Int) (q : Int) true t) else (if (q : Int) < (h.length : Int) then (impl_CanPayFrom.j4 k (p : Int) h pd out ag (q : Int) s (p : Int) (q : Int) (decide ((rd h (q : Int)) < s)) t) else none)) else none) else none) r := by
    have yes : (pd.getD q false = true ∨ h.getD q 0 < s) → ∃ r : List Int × Int, (r.1.length ≤ 16 ∧ G r) ∧ Ev (fun k => spec_CanPayFrom.j4 k (p : Int) h pd out ag (q : Int) s true t) r ∧ Ev (fun k => impl_CanPayFrom.j4 k (p : Int) h pd out ag (q : Int) s (p : Int) (q : Int) true t) r := by
      intro hy
      obtain ⟨r, h0, h1, h2⟩ := skip hy
      rw [ec] at h1 h2
      refine ⟨r, h0, ?_, ?_⟩
      · exact Ev.step (fun k => by rw [spec_CanPayFrom.j4, if_pos rfl, wrap_up hq (by omega)]) h1
      · exact Ev.step (fun k => by rw [impl_CanPayFrom.j4, if_pos rfl, wrap_up hq (by omega)]) h2
    rw [gdb, gd]
    by_cases h3 : pd.getD q false = true
    · obtain ⟨r, h0, h1, h2⟩ := yes (.inl h3)
      exact ⟨r, h0, ev_pos (by omega) (ev_pos (by omega) (ev_pos h3 h1)), ev_pos (by omega) (ev_pos (by omega) (ev_pos h3 h2))⟩
    · have h3f : pd.getD q false = false := Bool.eq_false_iff.mpr h3
      by_cases h4 : h.getD q 0 < s
      · obtain ⟨r, h0, h1, h2⟩ := yes (.inr h4)
        rw [decide_eq_true h4]
        exact ⟨r, h0, ev_pos (by omega) (ev_pos (by omega) (ev_neg h3 (ev_pos (by omega) h1))), ev_pos (by omega) (ev_pos (by omega) (ev_neg h3 (ev_pos (by omega) h2)))⟩
      · rw [decide_eq_false h4]
        obtain ⟨h5, hh5⟩ : ∃ h5, h.set q (wrap64 (h.getD q 0 - s)) = h5 := ⟨_, rfl⟩
        have hl5 : h5.length = p := by rw [← hh5, List.length_set]; exact hl
        rw [hh5] at pay err
        have main : ∃ r : List Int × Int, (r.1.length ≤ 16 ∧ G r) ∧ Ev (fun k => spec_CanPayFrom.l4 k (p : Int) h5 (pd.set q true) (out ++ [(q : Int)]) true (q : Int) 0 t) r ∧ Ev (fun k => impl_CanPayFrom.l4 k (p : Int) h5 (pd.set q true) (out ++ [(q : Int)]) true (q : Int) (p : Int) (q : Int) (p : Int) 0 t) r := by
          cases ha : addF t q p 0 h5 with
          | none =>
            refine ⟨([], 3), ⟨by simp, err h3f h4 ha⟩, ?_, ?_⟩
            · have := addS_ev p t q hp2 hq (pd.set q true) (out ++ [(q : Int)]) (fun _ => ([], 3)) h5 hl5 (fun r hr => by rw [ha] at hr; cases hr)
              rw [ha] at this; exact this
            · have := addI_ev p t q hp2 hq (pd.set q true) (out ++ [(q : Int)]) (fun _ => ([], 3)) h5 hl5 (fun r hr => by rw [ha] at hr; cases hr)
              rw [ha] at this; exact this
          | some r5 =>
            obtain ⟨r, h0, h1, h2⟩ := pay h3f h4 r5 ha (by rw [addF_len t q p 0 h5 r5 ha]; exact hl5)
            rw [ec] at h1 h2
            refine ⟨r, h0, ?_, ?_⟩
            · have := addS_ev p t q hp2 hq (pd.set q true) (out ++ [(q : Int)]) (fun _ => r) h5 hl5 (fun x hr => by rw [ha] at hr; cases hr; exact h1)
              rw [ha] at this; exact this
            · have := addI_ev p t q hp2 hq (pd.set q true) (out ++ [(q : Int)]) (fun _ => r) h5 hl5 (fun x hr => by rw [ha] at hr; cases hr; exact h2)
              rw [ha] at this; exact this
        obtain ⟨r, h0, h1, h2⟩ := main
        refine ⟨r, h0, ev_pos (by omega) (ev_pos (by omega) (ev_neg h3 (ev_pos (by omega) ?_))), ev_pos (by omega) (ev_pos (by omega) (ev_neg h3 (ev_pos (by omega) ?_)))⟩
        · refine Ev.step (fun k => by rw [spec_CanPayFrom.j4, gd]) (ev_neg (by simp) (ev_pos (by omega) (ev_pos (by omega) (ev_pos (by omega) (ev_pos (by omega) ?_)))))
          rw [Int.toNat_natCast, hh5]; exact h1
        · refine Ev.step (fun k => by rw [impl_CanPayFrom.j4, gd]) (ev_neg (by simp) (ev_pos (by omega) (ev_pos (by omega) (ev_pos (by omega) (ev_pos (by omega) ?_)))))
          rw [Int.toNat_natCast, hh5]; exact h2
  obtain ⟨r, h0, h1, h2⟩ := core
  refine ⟨r, h0, ?_, ?_⟩
  · refine Ev.step (fun k => by rw [spec_CanPayFrom.l2]) (ev_pos (by omega) ?_)
    refine ev_forI (n := p) (G := fun k (x : Int) i => spec_CanPayFrom.l3 k (p : Int) h pd out ag (q : Int) x i t) (F := fun _ _ => r) (I := fun x i => x = osum t q i) (fun i hi ih x hI => ?_) (fun x hI => ?_) 0 (by omega) 0 rfl
    · have hb1 := osum_bd hb q (by omega) (i + 1) (by omega)
      have e1 : osum t q (i + 1) = osum t q i + tg t q i := rfl
      refine Ev.step (fun k => by rw [spec_CanPayFrom.l3, vrd2_nn, wrap_up hi (by omega)]) ?_
      refine ev_pos (by omega) (ev_pos (by omega) (ev_pos (by omega) (ev_pos (by omega) (ev_pos (by omega) ?_))))
      exact ih _ (by rw [hI, e1, wrap_id (by omega) (by omega)])
    · rw [hI, hs]
      exact Ev.step (fun k => by rw [spec_CanPayFrom.l3]) (ev_neg (by omega) h1)
  · refine Ev.step (fun k => by rw [impl_CanPayFrom.l2]) (ev_pos (by omega) (ev_pos (by omega) (ev_pos (by omega) ?_)))
    refine ev_forI (n := 16) (G := fun k (x : Int) i => impl_CanPayFrom.l3 k (p : Int) h pd out ag (q : Int) x (p : Int) (q : Int) i (Arr.vrow 16 t (q : Int)) t) (F := fun _ _ => r) (I := fun x i => x = osum t q i) (fun i hi ih x hI => ?_) (fun x hI => ?_) 0 (by omega) 0 rfl
    · have hb1 := osum_bd hb q (by omega) (i + 1) (by omega)
      have e1 : osum t q (i + 1) = osum t q i + tg t q i := rfl
      refine Ev.step (fun k => by rw [impl_CanPayFrom.l3, vrow_nn t q i hi, wrap_up hi (by omega)]) ?_
      refine ev_pos (by omega) (ev_pos (by omega) ?_)
      exact ih _ (by rw [hI, e1, wrap_id (by omega) (by omega)])
    · rw [hI, e16, hs]
      exact Ev.step (fun k => by rw [impl_CanPayFrom.l3]) (ev_neg (by omega) h2)
theorem round_both (G : List Int × Int → Prop) (J : Nat → List Int → List Bool → List Int → Bool → Prop) (p : Nat) (t : Tb) (hp : 1 ≤ p) (hp2 : p ≤ 16) (hb : bdT t 6000000000) (hz : ∀ a b, a < 16 → b < 16 → p ≤ b → tg t a b = 0)
    (jskip : ∀ q h pd out ag, q < p → h.length = p → pd.length = p → J q h pd out ag → (pd.getD q false = true ∨ h.getD q 0 < osum t q p) → J (q + 1) h pd out ag)
    (jpay : ∀ q h pd out ag, q < p → h.length = p → pd.length = p → J q h pd out ag → pd.getD q false = false → ¬ h.getD q 0 < osum t q p → ∀ r, addF t q p 0 (h.set q (wrap64 (h.getD q 0 - osum t q p))) = some r → J (q + 1) r (pd.set q true) (out ++ [(q : Int)]) true)
    (jerr : ∀ q h pd out ag, q < p → h.length = p → pd.length = p → J q h pd out ag → pd.getD q false = false → ¬ h.getD q 0 < osum t q p → addF t q p 0 (h.set q (wrap64 (h.getD q 0 - osum t q p))) = none → G ([], 3))
    (jend : ∀ h pd out, h.length = p → pd.length = p → J p h pd out false → G (out, 0)) (N : Nat)
    (again : ∀ h pd out, h.length = p → pd.length = p → out.length + pd.count false ≤ 16 → pd.count false < N → J p h pd out true → Both1 G p t h pd out true) :
    ∀ (d q : Nat) (h : List Int) (pd : List Bool) (out : List Int) (ag : Bool), q + d = p → h.length = p → pd.length = p → out.length + pd.count false ≤ 16 → pd.count false ≤ N → (ag = true → pd.count false < N) → J q h pd out ag → Both G p t q h pd out ag := by
  intro d
  induction d with
  | zero =>
    intro q h pd out ag hq hl hd ho hN hag hJ
    have eq : q = p := by omega
    rw [eq] at hJ
    obtain ⟨r, h0, h1, h2⟩ : Both1 G p t h pd out ag := by
      cases ag with
      | true => exact again h pd out hl hd ho (hag rfl) hJ
      | false =>
        refine ⟨(out, 0), ⟨by simp only; omega, jend h pd out hl hd hJ⟩, ?_, ?_⟩
        · exact Ev.step (f := fun _ => some (out, 0)) (fun k => by rw [spec_CanPayFrom.l1, if_neg (by simp)]) (Ev.now _)
        · exact Ev.step (f := fun _ => some (out, 0)) (fun k => by rw [impl_CanPayFrom.l1, if_neg (by simp)]) (Ev.now _)
    exact ⟨r, h0, Ev.step (fun k => by rw [spec_CanPayFrom.l2]) (ev_neg (by omega) h1), Ev.step (fun k => by rw [impl_CanPayFrom.l2]) (ev_neg (by omega) h2)⟩
  | succ d ih =>
    intro q h pd out ag hq hl hd ho hN hag hJ
    refine one_both G p t hp hp2 hb hz q (by omega) h pd out ag hl hd (by omega) (fun hy => ih (q + 1) h pd out ag (by omega) hl hd ho hN hag (jskip q h pd out ag (by omega) hl hd hJ hy)) (fun hf hs r ha hr => ?_) (fun hf hs ha => jerr q h pd out ag (by omega) hl hd hJ hf hs ha)
    have hc := countF_set pd q (by omega) hf
    exact ih (q + 1) r (pd.set q true) (out ++ [(q : Int)]) true (by omega) hr (by rw [List.length_set]; exact hd) (by rw [List.length_append, List.length_singleton]; omega) (by omega) (fun _ => by omega) (jpay q h pd out ag (by omega) hl hd hJ hf hs r ha)
theorem all_both (G : List Int × Int → Prop) (J : Nat → List Int → List Bool → List Int → Bool → Prop) (p : Nat) (t : Tb) (hp : 1 ≤ p) (hp2 : p ≤ 16) (hb : bdT t 6000000000) (hz : ∀ a b, a < 16 → b < 16 → p ≤ b → tg t a b = 0)
    (jskip : ∀ q h pd out ag, q < p → h.length = p → pd.length = p → J q h pd out ag → (pd.getD q false = true ∨ h.getD q 0 < osum t q p) → J (q + 1) h pd out ag)
    (jpay : ∀ q h pd out ag, q < p → h.length = p → pd.length = p → J q h pd out ag → pd.getD q false = false → ¬ h.getD q 0 < osum t q p → ∀ r, addF t q p 0 (h.set q (wrap64 (h.getD q 0 - osum t q p))) = some r → J (q + 1) r (pd.set q true) (out ++ [(q : Int)]) true)
    (jerr : ∀ q h pd out ag, q < p → h.length = p → pd.length = p → J q h pd out ag → pd.getD q false = false → ¬ h.getD q 0 < osum t q p → addF t q p 0 (h.set q (wrap64 (h.getD q 0 - osum t q p))) = none → G ([], 3))
    (jend : ∀ h pd out, h.length = p → pd.length = p → J p h pd out false → G (out, 0)) (jnext : ∀ h pd out, J p h pd out true → J 0 h pd out false) : ∀ (N : Nat) (h : List Int) (pd : List Bool) (out : List Int), h.length = p → pd.length = p → out.length + pd.count false ≤ 16 → pd.count false < N → J 0 h pd out false → Both1 G p t h pd out true := by
  intro N
  induction N with
  | zero => intro h pd out _ _ _ hc; omega
  | succ N ih =>
    intro h pd out hl hd ho hc hJ
    obtain ⟨r, h0, h1, h2⟩ := round_both G J p t hp hp2 hb hz jskip jpay jerr jend N (fun h pd out hl hd ho hc hJ => ih h pd out hl hd ho hc (jnext h pd out hJ)) p 0 h pd out false (by omega) hl hd ho (by omega) (by simp) hJ
    have h3 : Ev (fun k => spec_CanPayFrom.l2 k (p : Int) h pd out false 0 t) r := h1
    have h4 : Ev (fun k => impl_CanPayFrom.l2 k (p : Int) h pd out false (p : Int) 0 t) r := h2
    exact ⟨r, h0, Ev.step (fun k => by rw [spec_CanPayFrom.l1, if_pos rfl]) h3, Ev.step (fun k => by rw [impl_CanPayFrom.l1, if_pos rfl]) h4⟩
/-! amounts -/
def isAm (x : Int) : Bool := decide (0 ≤ x ∧ x ≤ 100000000)
theorem amI (x : Int) : impl_isAmount.f x = some (isAm x) := by
  unfold impl_isAmount.f isAm
  by_cases h : 0 ≤ x
  · by_cases h2 : x ≤ 100000000 <;> simp [h, h2] <;> omega
  · simp [h] <;> omega
theorem amS (x : Int) : spec_l01Amount.f x = some (isAm x) := by
  unfold spec_l01Amount.f
  rw [l00In_f]; rfl
theorem all_drop (l : List Int) (i : Nat) (h : i < l.length) : (l.drop i).all isAm = (isAm l[i] && (l.drop (i + 1)).all isAm) := by
  rw [List.drop_eq_getElem_cons h]; rfl
theorem can_core (G : List Int × Int → Prop) (p : Int) (l : List D) (c : List Int) (hl : l.length ≤ maxLen) (hc : c.length ≤ maxLen) (hv : valid p l = true) (hlen : (c.length : Int) = p) (ham : c.all isAm = true)
    (loop : Both1 G p.toNat (sumT l) c (List.replicate p.toNat false) [] true) : ∃ r : List Int × Int, (r.1.length ≤ 16 ∧ G r) ∧ Ev (fun k => spec_CanPayFrom.f k p l c) r ∧ Ev (fun k => impl_CanPayFrom.f k p l c) r := by
  unfold spec_CanPayFrom.f impl_CanPayFrom.f
  obtain ⟨hp, hp2, h60, hd⟩ := valid_bd hv
  have ep : ((p.toNat : Nat) : Int) = p := by omega
  obtain ⟨r, h0, h1, h2⟩ := loop
  rw [ep] at h1 h2
  refine ⟨r, h0, Ev.bind (l02Ok_ev p l hl) (ev_pos hv (ev_pos hlen ?_)), Ev.bind (ValidI_ev p l hl) (ev_pos hv (ev_pos hlen ?_))⟩
  · refine ev_forI (n := c.length) (G := fun k (_ : Unit) i => spec_CanPayFrom.l0 k p l c i) (F := fun _ i => r) (I := fun _ i => (c.drop i).all isAm = true) (fun i hi ih s hI => ?_) (fun s hI => ?_) 0 (by omega) () (by rw [List.drop_zero]; exact ham)
    · have hr : rd c (i : Int) = c[i] := getD_lt c _ i hi
      rw [all_drop c i hi, Bool.and_eq_true] at hI
      refine Ev.step (fun k => by rw [spec_CanPayFrom.l0, hr, wrap_up hi (by omega)]) (ev_pos (by omega) (ev_pos (by omega) (ev_bind0 (amS _) ?_)))
      exact ev_pos hI.1 (ih () hI.2)
    · refine Ev.step (fun k => by rw [spec_CanPayFrom.l0]) (ev_neg (by omega) (Ev.bind (sumsS_ev p l hv) ?_))
      simp only [Option.bind_some, List.length_nil, List.nil_append, Nat.zero_add]
      exact ev_pos (by omega) (ev_pos (by omega) (ev_pos (by omega) h1))
  · refine ev_forI (n := c.length) (G := fun k (_ : Unit) i => impl_CanPayFrom.l0 k p l c c (c.length : Int) i) (F := fun _ i => r) (I := fun _ i => (c.drop i).all isAm = true) (fun i hi ih s hI => ?_) (fun s hI => ?_) 0 (by omega) () (by rw [List.drop_zero]; exact ham)
    · have hr : rd c (i : Int) = c[i] := getD_lt c _ i hi
      rw [all_drop c i hi, Bool.and_eq_true] at hI
      refine Ev.step (fun k => by rw [impl_CanPayFrom.l0, hr, wrap_up hi (by omega)]) (ev_pos (by omega) (ev_pos (by omega) (ev_pos (by omega) (ev_bind0 (amI _) ?_))))
      exact ev_pos hI.1 (ih () hI.2)
    · have hcl : slices_Clone_int64_int64.f c = some c := by
        unfold slices_Clone_int64_int64.f
        simp only [Option.bind_some, List.length_nil, List.nil_append, Nat.zero_add]
        rw [if_pos (by omega)]
      refine Ev.step (fun k => by rw [impl_CanPayFrom.l0]) (ev_neg (by omega) (Ev.bind (sumsI_ev p l hv) (ev_bind0 hcl ?_)))
      exact ev_pos (by omega) (ev_pos (by omega) h2)
theorem can_bad (p : Int) (l : List D) (c : List Int) (hl : l.length ≤ maxLen) (hc : c.length ≤ maxLen) (hv : valid p l = true) (hlen : (c.length : Int) = p) (ham : ¬ c.all isAm = true) : Ev (fun k => spec_CanPayFrom.f k p l c) ([], 2) ∧ Ev (fun k => impl_CanPayFrom.f k p l c) ([], 2) := by
  unfold spec_CanPayFrom.f impl_CanPayFrom.f
  obtain ⟨hp, hp2, h60, hd⟩ := valid_bd hv
  refine ⟨Ev.bind (l02Ok_ev p l hl) (ev_pos hv (ev_pos hlen ?_)), Ev.bind (ValidI_ev p l hl) (ev_pos hv (ev_pos hlen ?_))⟩
  · refine ev_forI (n := c.length) (G := fun k (_ : Unit) i => spec_CanPayFrom.l0 k p l c i) (F := fun _ i => ([], 2)) (I := fun _ i => ¬ (c.drop i).all isAm = true) (fun i hi ih s hI => ?_) (fun s hI => ?_) 0 (by omega) () (by rw [List.drop_zero]; exact ham)
    · have hr : rd c (i : Int) = c[i] := getD_lt c _ i hi
      rw [all_drop c i hi, Bool.and_eq_true] at hI
      refine Ev.step (fun k => by rw [spec_CanPayFrom.l0, hr, wrap_up hi (by omega)]) (ev_pos (by omega) (ev_pos (by omega) (ev_bind0 (amS _) ?_)))
      by_cases ha : isAm c[i] = true
      · exact ev_pos ha (ih () (fun z => hI ⟨ha, z⟩))
      · exact ev_neg ha (Ev.now _)
    · exact absurd (by rw [List.drop_length]; rfl) hI
  · refine ev_forI (n := c.length) (G := fun k (_ : Unit) i => impl_CanPayFrom.l0 k p l c c (c.length : Int) i) (F := fun _ i => ([], 2)) (I := fun _ i => ¬ (c.drop i).all isAm = true) (fun i hi ih s hI => ?_) (fun s hI => ?_) 0 (by omega) () (by rw [List.drop_zero]; exact ham)
    · have hr : rd c (i : Int) = c[i] := getD_lt c _ i hi
      rw [all_drop c i hi, Bool.and_eq_true] at hI
      refine Ev.step (fun k => by rw [impl_CanPayFrom.l0, hr, wrap_up hi (by omega)]) (ev_pos (by omega) (ev_pos (by omega) (ev_pos (by omega) (ev_bind0 (amI _) ?_))))
      by_cases ha : isAm c[i] = true
      · exact ev_pos ha (ih () (fun z => hI ⟨ha, z⟩))
      · exact ev_neg ha (Ev.now _)
    · exact absurd (by rw [List.drop_length]; rfl) hI
theorem can_both (p : Int) (l : List D) (c : List Int) (hl : l.length ≤ maxLen) (hc : c.length ≤ maxLen) : ∃ r : List Int × Int, r.1.length ≤ 16 ∧ Ev (fun k => spec_CanPayFrom.f k p l c) r ∧ Ev (fun k => impl_CanPayFrom.f k p l c) r := by
  by_cases hv : valid p l = true
  · obtain ⟨hp, hp2, h60, hd⟩ := valid_bd hv
    by_cases hlen : (c.length : Int) = p
    · by_cases ham : c.all isAm = true
      · obtain ⟨hb, hz⟩ := sumT_bd hv
        obtain ⟨r, h0, h1, h2⟩ := can_core (fun _ => True) p l c hl hc hv hlen ham (all_both (fun _ => True) (fun _ _ _ _ _ => True) p.toNat (sumT l) (by omega) (by omega) hb hz (fun _ _ _ _ _ _ _ _ _ _ => trivial) (fun _ _ _ _ _ _ _ _ _ _ _ _ _ => trivial) (fun _ _ _ _ _ _ _ _ _ _ _ _ => trivial) (fun _ _ _ _ _ _ => trivial) (fun _ _ _ _ => trivial) 17 c (List.replicate p.toNat false) [] (by omega) (by simp) (by simp; omega) (by simp; omega) trivial)
        exact ⟨r, h0.1, h1, h2⟩
      · obtain ⟨h1, h2⟩ := can_bad p l c hl hc hv hlen ham
        exact ⟨([], 2), by simp, h1, h2⟩
    · unfold spec_CanPayFrom.f impl_CanPayFrom.f
      exact ⟨([], 2), by simp, Ev.bind (l02Ok_ev p l hl) (ev_pos hv (ev_neg hlen (Ev.now _))), Ev.bind (ValidI_ev p l hl) (ev_pos hv (ev_neg hlen (Ev.now _)))⟩
  · unfold spec_CanPayFrom.f impl_CanPayFrom.f
    exact ⟨([], 1), by simp, Ev.bind (l02Ok_ev p l hl) (ev_neg hv (Ev.now _)), Ev.bind (ValidI_ev p l hl) (ev_neg hv (Ev.now _))⟩
end Go.Proofs.Ytofcgkcpkngocaa.PuCanPaid
