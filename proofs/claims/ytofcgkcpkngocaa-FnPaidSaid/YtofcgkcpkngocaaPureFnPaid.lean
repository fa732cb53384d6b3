/- For all bytes the law FnPaid returns true: what is paid or passed makes the debts less by as much, passing leaves all nets as they are, and who can pay has paid all that he owes, nobody twice; no condition. -/
import Derived.Test.YtofcgkcpkngocaaMPaidx0
import Derived.Test.YtofcgkcpkngocaaMPaidx14
import Derived.Test.YtofcgkcpkngocaaMPaidx15
import Derived.Test.YtofcgkcpkngocaaMPaidx16
import Derived.Test.YtofcgkcpkngocaaMPaidx17
import Derived.Test.YtofcgkcpkngocaaVPaidEv
import Derived.Test.YtofcgkcpkngocaaPuDebtPaid
import Derived.Test.YtofcgkcpkngocaaPuDebtSPaid
import Derived.Test.YtofcgkcpkngocaaPuSameIPaid
import Derived.Test.YtofcgkcpkngocaaPuTablePaid
import Derived.Test.YtofcgkcpkngocaaPuTableLPaid
import Derived.Test.YtofcgkcpkngocaaPuSumNetsPaid
import Derived.Test.YtofcgkcpkngocaaPuPayPaid
import Derived.Test.YtofcgkcpkngocaaPuTab2Paid
import Derived.Test.YtofcgkcpkngocaaPuDrawPaid
import Derived.Test.YtofcgkcpkngocaaPuCanPaid
import Derived.Test.YtofcgkcpkngocaaPuCan2Paid
namespace Go.Proofs.Ytofcgkcpkngocaa.Pure
open Go.RowKit Go.Proofs.Ytofcgkcpkngocaa.MPaid Go.Proofs.YtofcgkcpkngocaaW.PrintWords Go.Proofs.YtofcgkcpkngocaaW.PrintLast Go.Proofs.Ytofcgkcpkngocaa.Evs Go.Proofs.Ytofcgkcpkngocaa.PuDebtPaid Go.Proofs.Ytofcgkcpkngocaa.PuDebtSPaid Go.Proofs.Ytofcgkcpkngocaa.PuSameIPaid Go.Proofs.Ytofcgkcpkngocaa.PuTablePaid Go.Proofs.Ytofcgkcpkngocaa.PuTableLPaid Go.Proofs.Ytofcgkcpkngocaa.PuPayPaid Go.Proofs.Ytofcgkcpkngocaa.PuTab2Paid Go.Proofs.Ytofcgkcpkngocaa.PuDrawPaid
open Go.Proofs.Ytofcgkcpkngocaa.PuSumNetsPaid (netsW netsR NetsS_ev NetsI_ev netsW_length)
open Go.Proofs.Ytofcgkcpkngocaa.PuCan2Paid (can_good Gp)
open Go.Proofs.Ytofcgkcpkngocaa.PuCanPaid (osum osum_bd)
set_option linter.unusedVariables false
set_option linter.unusedSimpArgs false

theorem same_refl (a : List D) (h : a.length ≤ maxLen) : Ev (fun k => spec_SameDebts.f k a a) true := by
  have := SameS_ev a a h
  rw [dec_true rfl] at this
  exact this
theorem a2same_refl (a : List Int) (h : a.length ≤ maxLen) : Ev (fun k => spec_A2Same.f k a a) true := by
  unfold spec_A2Same.f
  have := l00Same_ev a a h
  rw [dec_true rfl] at this
  exact Ev.bind this (Ev.now _)
theorem a2has_ev (a : List Int) (x : Int) (h : a.length ≤ maxLen) (hx : x ∈ a) : Ev (fun k => spec_A2Has.f k a x) true := by
  unfold spec_A2Has.f
  unfold maxLen at h
  refine ev_forI (n := a.length) (G := fun k (_ : Unit) i => spec_A2Has.l0 k a x i) (F := fun _ _ => true) (I := fun _ i => x ∈ a.drop i) (fun i hi ih s hI => ?_) (fun s hI => ?_) 0 (by omega) () (by rw [List.drop_zero]; exact hx)
  · have hr : rd a (i : Int) = a[i] := getD_lt a _ i hi
    refine Ev.step (fun k => by rw [spec_A2Has.l0, hr, wrap_up hi (by omega)]) (ev_pos (by omega) (ev_pos (by omega) ?_))
    by_cases e : a[i] = x
    · exact ev_pos e (Ev.now _)
    · refine ev_neg e (ih () ?_)
      rw [List.drop_eq_getElem_cons hi] at hI
      rcases List.mem_cons.1 hI with h1 | h1
      · exact absurd h1.symm e
      · exact h1
  · rw [List.drop_length] at hI; cases hI
theorem code_ok {p : Int} {l : List D} (hv : valid p l = true) (w : List Int) (h : ∀ a ∈ w, 0 ≤ a ∧ a < p) : codeD p l w = 0 := by
  unfold codeD
  rw [if_pos hv, if_pos]
  unfold arePs
  rw [List.all_eq_true]
  exact fun a ha => decide_eq_true (h a ha)
theorem owed_ok {p : Int} {l : List D} (hv : valid p l = true) (a b : Int) (ha : 0 ≤ a ∧ a < p) (hb : 0 ≤ b ∧ b < p) : owedR p l a b = (tg (sumT l) a.toNat b.toNat, 0) := by
  unfold owedR
  rw [if_pos (code_ok hv [a, b] (fun x hx => by
    rcases List.mem_cons.1 hx with rfl | hx
    · exact ha
    · have := List.mem_singleton.1 hx; rw [this]; exact hb))]
/-! what is paid -/
theorem paid_tg {t : Tb} {P : Nat} {B : Int} (h : tabOk P B t) (hP : P ≤ 16) (hB : B ≤ 100000000) (a b c : Int) (ha : 0 ≤ a ∧ a < P) (hb : 0 ≤ b ∧ b < P) (hc : 1 ≤ c ∧ c ≤ tg t a.toNat b.toNat) (x y : Nat) (hx : x < 16) (hy : y < 16) :
    tg (paidT t a b c) x y = tg t x y + (if x = a.toNat ∧ y = b.toNat then -c else 0) := by
  have h1 := h a.toNat b.toNat (by omega) (by omega)
  unfold paidT
  rw [vrd2_n, tg_put t a b _ ⟨ha.1, by omega⟩ ⟨hb.1, by omega⟩ x y hx hy, wrap_id (by omega) (by omega)]
  by_cases e : x = a.toNat ∧ y = b.toNat
  · rw [if_pos e, if_pos e, e.1, e.2]; omega
  · rw [if_neg e, if_neg e]; omega
theorem paid_ok {t : Tb} {P : Nat} {B : Int} (h : tabOk P B t) (hP : P ≤ 16) (hB : B ≤ 100000000) (a b c : Int) (ha : 0 ≤ a ∧ a < P) (hb : 0 ≤ b ∧ b < P) (hc : 1 ≤ c ∧ c ≤ tg t a.toNat b.toNat) : tabOk P B (paidT t a b c) := by
  intro x y hx hy
  have h1 := h x y hx hy
  rw [paid_tg h hP hB a b c ha hb hc x y hx hy]
  by_cases e : x = a.toNat ∧ y = b.toNat
  · have h2 := h a.toNat b.toNat (by omega) (by omega)
    rw [if_pos e, e.1, e.2]
    exact ⟨by omega, by omega, fun z => h2.2.2 (by omega)⟩
  · rw [if_neg e]
    refine ⟨by omega, by omega, fun z => h1.2.2 (by omega)⟩
/-! what is passed -/
theorem put_tg {t : Tb} (a b : Int) (v : Int) (ha : 0 ≤ a ∧ a < 16) (hb : 0 ≤ b ∧ b < 16) (x y : Nat) (hx : x < 16) (hy : y < 16) (hv : -1000000000000 ≤ Arr.vrd2 16 t a b + v ∧ Arr.vrd2 16 t a b + v ≤ 1000000000000) :
    tg (Arr.vst2 16 t a b (wrap64 (Arr.vrd2 16 t a b + v))) x y = tg t x y + (if x = a.toNat ∧ y = b.toNat then v else 0) := by
  rw [tg_put t a b _ ha hb x y hx hy, wrap_id (by omega) (by omega), vrd2_n]
  by_cases e : x = a.toNat ∧ y = b.toNat
  · rw [if_pos e, if_pos e, e.1, e.2]
  · rw [if_neg e, if_neg e]; omega
theorem sub_add (x c : Int) : x - c = x + -c := by omega
theorem pass_all {t : Tb} {P : Nat} {B : Int} (h : tabOk P B t) (hP : P ≤ 16) (hB0 : 0 ≤ B) (hB : B ≤ 1000000) (a b n c : Int) (ha : 0 ≤ a ∧ a < P) (hb : 0 ≤ b ∧ b < P) (hn : 0 ≤ n ∧ n < P) (hk : passOk t a b n c = true) :
    tabOk P (2 * B) (passT t a b n c) ∧ ∀ q, q < 16 → netT (passT t a b n c) q = netT t q := by
  obtain ⟨k1, k2, k3, k4, k5⟩ := of_decide_eq_true hk
  have i1 := h a.toNat b.toNat (by omega) (by omega)
  have i2 := h b.toNat n.toNat (by omega) (by omega)
  have i3 := h a.toNat n.toNat (by omega) (by omega)
  rw [vrd2_n] at k4 k5
  obtain ⟨t1, e1⟩ : ∃ t1, Arr.vst2 16 t a b (wrap64 (Arr.vrd2 16 t a b - c)) = t1 := ⟨_, rfl⟩
  have g1 : ∀ x y, x < 16 → y < 16 → tg t1 x y = tg t x y + (if x = a.toNat ∧ y = b.toNat then -c else 0) := fun x y hx hy => by
    rw [← e1, sub_add, put_tg a b (-c) ⟨ha.1, by omega⟩ ⟨hb.1, by omega⟩ x y hx hy (by rw [vrd2_n]; omega)]
  have r1 : Arr.vrd2 16 t1 b n = tg t b.toNat n.toNat := by
    rw [vrd2_n, g1 _ _ (by omega) (by omega), if_neg (by omega)]; omega
  obtain ⟨t2, e2⟩ : ∃ t2, Arr.vst2 16 t1 b n (wrap64 (Arr.vrd2 16 t1 b n - c)) = t2 := ⟨_, rfl⟩
  have g2 : ∀ x y, x < 16 → y < 16 → tg t2 x y = tg t1 x y + (if x = b.toNat ∧ y = n.toNat then -c else 0) := fun x y hx hy => by
    rw [← e2, sub_add, put_tg b n (-c) ⟨hb.1, by omega⟩ ⟨hn.1, by omega⟩ x y hx hy (by rw [r1]; omega)]
  have n1 : ∀ q, q < 16 → netT t1 q = netT t q + (if q = b.toNat then -c else 0) - (if q = a.toNat then -c else 0) := fun q hq => netT_upd (by omega) (by omega) g1 q hq
  have n2 : ∀ q, q < 16 → netT t2 q = netT t1 q + (if q = n.toNat then -c else 0) - (if q = b.toNat then -c else 0) := fun q hq => netT_upd (by omega) (by omega) g2 q hq
  have ok2 : ∀ x y, x < 16 → y < 16 → 0 ≤ tg t2 x y ∧ tg t2 x y ≤ tg t x y := by
    intro x y hx hy
    have := h x y hx hy
    rw [g2 x y hx hy, g1 x y hx hy]
    by_cases c1 : x = a.toNat ∧ y = b.toNat
    · rw [if_pos c1, if_neg (by omega)]
      rw [c1.1, c1.2]; omega
    · rw [if_neg c1]
      by_cases c2 : x = b.toNat ∧ y = n.toNat
      · rw [if_pos c2, c2.1, c2.2]; omega
      · rw [if_neg c2]; omega
  unfold passT
  simp only [e1, e2]
  by_cases han : a = n
  · rw [if_pos han]
    refine ⟨fun x y hx hy => ?_, fun q hq => ?_⟩
    · have := ok2 x y hx hy
      have h3 := h x y hx hy
      exact ⟨this.1, by omega, fun z => h3.2.2 (by omega)⟩
    · rw [n2 q hq, n1 q hq, han]
      by_cases d1 : q = n.toNat
      · by_cases d2 : q = b.toNat
        · rw [if_pos d1, if_pos d2]; omega
        · rw [if_pos d1, if_neg d2]; omega
      · by_cases d2 : q = b.toNat
        · rw [if_neg d1, if_pos d2]; omega
        · rw [if_neg d1, if_neg d2]; omega
  · rw [if_neg han]
    have r2 : Arr.vrd2 16 t2 a n = tg t a.toNat n.toNat := by
      rw [vrd2_n, g2 _ _ (by omega) (by omega), if_neg (by omega), g1 _ _ (by omega) (by omega), if_neg (by omega)]; omega
    have g3 : ∀ x y, x < 16 → y < 16 → tg (Arr.vst2 16 t2 a n (wrap64 (Arr.vrd2 16 t2 a n + c))) x y = tg t2 x y + (if x = a.toNat ∧ y = n.toNat then c else 0) := fun x y hx hy =>
      put_tg a n c ⟨ha.1, by omega⟩ ⟨hn.1, by omega⟩ x y hx hy (by rw [r2]; omega)
    refine ⟨fun x y hx hy => ?_, fun q hq => ?_⟩
    · have := ok2 x y hx hy
      have h3 := h x y hx hy
      rw [g3 x y hx hy]
      by_cases c3 : x = a.toNat ∧ y = n.toNat
      · rw [if_pos c3]
        exact ⟨by omega, by omega, fun _ => by omega⟩
      · rw [if_neg c3]
        exact ⟨by omega, by omega, fun z => h3.2.2 (by omega)⟩
    · rw [netT_upd (t := t2) (by omega) (by omega) g3 q hq, n2 q hq, n1 q hq]
      by_cases d1 : q = n.toNat
      · by_cases d2 : q = b.toNat
        · exact absurd (by omega) k2
        · by_cases d3 : q = a.toNat
          · exact absurd (by omega) han
          · rw [if_pos d1, if_neg d2, if_neg d3, if_pos d1]; omega
      · by_cases d2 : q = b.toNat
        · by_cases d3 : q = a.toNat
          · exact absurd (by omega) k1
          · rw [if_neg d1, if_pos d2, if_neg d3, if_neg d1]; omega
        · by_cases d3 : q = a.toNat
          · rw [if_neg d1, if_neg d2, if_pos d3, if_neg d1]; omega
          · rw [if_neg d1, if_neg d2, if_neg d3, if_neg d1]; omega
/-! the end: who can pay -/
theorem rows_ev {p : Int} {l : List D} {c : List Int} (hv : valid p l = true) (hlen : (c.length : Int) = p) (hb : PuCanPaid.bdT (sumT l) 480) (r : List Int × Int) (hr : r.1.length ≤ 16) (hG : Gp p.toNat (sumT l) c r) : Ev (fun k => laws_FnPaid.l3 k p l c r.1 0) true := by
  obtain ⟨hp, hp2, h60, hd⟩ := valid_bd hv
  refine ev_for (n := p.toNat) (G := fun k (_ : Unit) i => laws_FnPaid.l3 k p l c r.1 i) (F := fun _ _ => true) (fun i hi ih s => ?_) (fun s => ?_) 0 (by omega) ()
  · refine Ev.step (fun k => by rw [laws_FnPaid.l3]) (ev_pos (by omega) ?_)
    refine ev_forI (n := p.toNat) (G := fun k (x : Int) j => laws_FnPaid.l4 k p l c r.1 (i : Int) x j) (F := fun _ _ => true) (I := fun x j => x = osum (sumT l) i j) (fun j hj ih2 x hI => ?_) (fun x hI => ?_) 0 (by omega) 0 rfl
    · refine Ev.step (fun k => by rw [laws_FnPaid.l4, wrap_up hj (by omega)]) (ev_pos (by omega) ?_)
      have ho := OwedS_ev p l (i : Int) (j : Int) (by unfold maxLen; omega)
      rw [owed_ok hv _ _ ⟨by omega, by omega⟩ ⟨by omega, by omega⟩] at ho
      refine Ev.bind ho (ev_pos rfl ?_)
      have hb1 := osum_bd hb i (by omega) (j + 1) (by omega)
      have e1 : osum (sumT l) i (j + 1) = osum (sumT l) i j + tg (sumT l) i j := rfl
      exact ih2 _ (by rw [hI, e1, Int.toNat_natCast, Int.toNat_natCast, wrap_id (by omega) (by omega)])
    · refine Ev.step (fun k => by rw [laws_FnPaid.l4, wrap_up hi (by omega)]) (ev_neg (by omega) (ev_pos (by omega) (ev_pos (by omega) ?_)))
      by_cases hge : rd c (i : Int) ≥ x
      · refine ev_pos hge (Ev.bind (a2has_ev r.1 (i : Int) (by unfold maxLen; omega) (hG.2.2.2 i hi ?_)) (ev_pos rfl (ih ())))
        rw [← hI]; exact hge
      · exact ev_neg hge (ih ())
  · exact Ev.step (f := fun _ => some true) (fun k => by rw [laws_FnPaid.l3, if_neg (by omega)]) (Ev.now _)
theorem known_ev {p : Int} {l : List D} {c : List Int} (hv : valid p l = true) (hlen : (c.length : Int) = p) (hb : PuCanPaid.bdT (sumT l) 480) (r : List Int × Int) (hr : r.1.length ≤ 16) (hG : Gp p.toNat (sumT l) c r) : Ev (fun k => laws_FnPaid.l1 k p l c r.1 0) true := by
  obtain ⟨hp, hp2, h60, hd⟩ := valid_bd hv
  refine ev_for (n := r.1.length) (G := fun k (_ : Unit) i => laws_FnPaid.l1 k p l c r.1 i) (F := fun _ _ => true) (fun i hi ih s => ?_) (fun s => ?_) 0 (by omega) ()
  · have hx := hG.2.1 r.1[i] (List.getElem_mem hi)
    have hri : rd r.1 (i : Int) = r.1[i] := getD_lt r.1 _ i hi
    refine Ev.step (fun k => by rw [laws_FnPaid.l1, hri]) (ev_pos (by omega) (ev_pos (by omega) (ev_neg (by omega) ?_)))
    rw [decide_eq_false (show ¬ r.1[i] ≥ p by omega)]
    refine Ev.step (fun k => by rw [laws_FnPaid.j7]) (ev_neg (by simp) ?_)
    refine ev_for (n := i) (G := fun k (_ : Unit) j => laws_FnPaid.l2 k p l c r.1 (i : Int) j) (F := fun _ _ => true) (fun j hj ih2 s => ?_) (fun s => ?_) 0 (by omega) ()
    · have hrj : rd r.1 (j : Int) = r.1[j] := getD_lt r.1 _ j (by omega)
      refine Ev.step (fun k => by rw [laws_FnPaid.l2, hri, hrj, wrap_up hj (by omega)]) (ev_pos (by omega) (ev_pos (by omega) (ev_pos (by omega) (ev_pos (by omega) (ev_pos (by omega) (ev_neg ?_ (ih2 ())))))))
      exact List.pairwise_iff_getElem.1 hG.2.2.1 j i (by omega) hi hj
    · exact Ev.step (fun k => by rw [laws_FnPaid.l2, wrap_up hi (by omega)]) (ev_neg (by omega) (ih ()))
  · exact Ev.step (fun k => by rw [laws_FnPaid.l1]) (ev_neg (by omega) (rows_ev hv hlen hb r hr hG))
theorem cash_ev {p : Int} {l : List D} (m : List Int) (hm : byteL m) (hv : valid p l = true) (hb : PuCanPaid.bdT (sumT l) 480) : ∀ (d i : Nat) (c : List Int), (i : Int) + d = p → c.length = i → (∀ x ∈ c, 0 ≤ x ∧ x < 100) → Ev (fun k => laws_FnPaid.l0 k m p l c (i : Int)) true := by
  obtain ⟨hp, hp2, h60, hd⟩ := valid_bd hv
  intro d
  induction d with
  | zero =>
    intro i c hi hl hc
    refine Ev.step (fun k => by rw [laws_FnPaid.l0]) (ev_neg (by omega) ?_)
    obtain ⟨r, ⟨h16, hG⟩, hS, hI⟩ := can_good hv (by omega) hc hb
    refine Ev.bind hI (Ev.bind hS (ev_pos rfl (ev_pos hG.1 (Ev.bind (a2same_refl r.1 (by unfold maxLen; omega)) ?_))))
    refine Ev.step (fun k => by simp only [laws_FnPaid.j5]; rfl) ?_
    exact ev_neg (by simp) (known_ev hv (by omega) hb r h16 hG)
  | succ d ih =>
    intro i c hi hl hc
    obtain ⟨x, e, hx, hx2⟩ := at_f hm (4 + (i : Int)) 100 (by omega) (by omega)
    refine Ev.step (fun k => by rw [laws_FnPaid.l0, wrap_id (x := 4 + (i : Int)) (by omega) (by omega), wrap_id (x := (i : Int) + 1) (by omega) (by omega)]) ?_
    refine ev_pos (by omega) (ev_bind0 e ?_)
    refine ev_pos (by omega) ?_
    have := ih (i + 1) (c ++ [x]) (by omega) (by rw [List.length_append, List.length_singleton]; omega) (fun y hy => by
      rcases List.mem_append.1 hy with hy | hy
      · exact hc y hy
      · have := List.mem_singleton.1 hy; omega)
    rw [show ((i + 1 : Nat) : Int) = (i : Int) + 1 by omega] at this
    exact this
theorem wf8 {n : Int} (h : (Lit.int .u8 n).wf = true) : 0 ≤ n ∧ n ≤ 255 := by
  simp [Lit.wf, IntKind.min, IntKind.max, IntKind.signed, IntKind.bits] at h
  exact h
theorem FnPaid (l0 l1 : List Int) (h0 : l0.length ≤ maxLen) (w0 : ∀ z ∈ l0, (Lit.int .u8 z).wf = true) (h1 : l1.length ≤ maxLen) (w1 : ∀ z ∈ l1, (Lit.int .u8 z).wf = true) : ∃ k, laws_FnPaid.f k l0 l1 = some true := by
  refine Ev.rounds (r := true) ?_
  unfold laws_FnPaid.f laws_a2Long.f
  by_cases g0 : (l0.length : Int) > 3000
  · rw [if_pos g0]; exact ev_bind0 rfl (ev_pos rfl (Ev.now _))
  rw [if_neg g0]
  refine ev_bind0 rfl ?_
  by_cases g1 : (l1.length : Int) > 3000
  · rw [decide_eq_true g1]; exact ev_pos rfl (Ev.now _)
  rw [decide_eq_false g1]
  refine ev_neg (by simp) ?_
  have b0 : byteL l0 := ⟨by omega, fun x hx => wf8 (w0 x hx)⟩
  have b1 : byteL l1 := ⟨by omega, fun x hx => wf8 (w1 x hx)⟩
  obtain ⟨p, l, eD, hp, hp2, hl8, hd⟩ := drawn_ev b0
  have hv := drawn_valid hp hp2 hl8 hd
  have hlm : l.length ≤ maxLen := by unfold maxLen; omega
  obtain ⟨a, ea, ha, ha2⟩ := at_f b1 0 p (by omega) (by omega)
  obtain ⟨b, eb, hb, hb2⟩ := at_f b1 1 p (by omega) (by omega)
  obtain ⟨n, en, hn, hn2⟩ := at_f b1 2 p (by omega) (by omega)
  obtain ⟨m, em, hm, hm2⟩ := at_f b1 3 30 (by omega) (by omega)
  have hw : wrap64 (1 + m) = 1 + m := wrap_id (by omega) (by omega)
  have hsm : ∀ d ∈ l, smallD p.toNat 60 d := fun d hdm => by
    have := hd d hdm
    unfold drawnD at this
    unfold smallD
    omega
  obtain ⟨T0, H0⟩ := sum_both (p := p) (l := l) (m := 60) (by omega) (by omega) (by omega) (by omega) hsm
  have T : tabOk p.toNat 480 (sumT l) := fun x y hx hy => by
    have := T0 x y hx hy
    exact ⟨this.1, by omega, this.2.2⟩
  have hbd : PuCanPaid.bdT (sumT l) 480 := fun x y hx hy => ⟨(T x y hx hy).1, (T x y hx hy).2.1⟩
  have eN : netsR p l = (netsW p l, 0) := if_pos hv
  -- the end
  have e3 : Ev (fun k => laws_FnPaid.j3 k l1 p l) true := by
    refine Ev.step (fun k => by simp only [laws_FnPaid.j3]; rfl) ?_
    exact cash_ev l1 b1 hv hbd p.toNat 0 [] (by omega) rfl (by simp)
  -- what is passed
  have ep : Ev (fun k => laws_FnPaid.j1 k l1 p l a b n (1 + m)) true := by
    have S := PassS_ev p l a b n (1 + m) hlm
    have I := PassI_ev p l a b n (1 + m) hlm
    have hr := passR_len p l a b n (1 + m)
    refine Ev.step (fun k => by rw [laws_FnPaid.j1]) (Ev.bind I (Ev.bind S (ev_pos rfl (Ev.bind (same_refl (passR p l a b n (1 + m)).1 (by unfold maxLen; omega)) ?_))))
    refine Ev.step (fun k => by simp only [laws_FnPaid.j2]; rfl) (ev_neg (by simp) ?_)
    by_cases hz : (passR p l a b n (1 + m)).2 = 0
    · refine ev_pos hz ?_
      have hcode : codeD p l [a, b, n] = 0 := code_ok hv _ (fun x hx => by
        simp only [List.mem_cons, List.not_mem_nil, or_false] at hx
        rcases hx with rfl | rfl | rfl <;> omega)
      have hok : passOk (sumT l) a b n (1 + m) = true := by
        unfold passR at hz
        rw [if_pos hcode] at hz
        by_cases hk : passOk (sumT l) a b n (1 + m) = true
        · exact hk
        · rw [if_neg hk] at hz; cases hz
      obtain ⟨P1, P2⟩ := pass_all T (by omega) (by omega) (by omega) a b n (1 + m) ⟨ha, by omega⟩ ⟨hb, by omega⟩ ⟨hn, by omega⟩ hok
      have eR : passR p l a b n (1 + m) = (cellsFrom (passT (sumT l) a b n (1 + m)) 0, 0) := by
        unfold passR
        rw [if_pos hcode, if_pos hok, list_small P1 (by omega) (by omega)]
      rw [eR] at hr ⊢
      have hv2 := cells_valid (p := p) P1 (by omega) hp2 (by omega)
      have hh := cells_nets (p := p) P1 (by omega) hp2 (by omega) (by omega)
      have eN2 : netsR p (cellsFrom (passT (sumT l) a b n (1 + m)) 0) = (netsW p (cellsFrom (passT (sumT l) a b n (1 + m)) 0), 0) := if_pos hv2
      have N1 := NetsS_ev p l hlm
      have N2 := NetsI_ev p (cellsFrom (passT (sumT l) a b n (1 + m)) 0) (by unfold maxLen; simp only at hr; omega)
      rw [eN] at N1
      rw [eN2, ← nets_eq H0 hh (fun i hi => (P2 i (by omega)).symm)] at N2
      refine Ev.bind N1 (Ev.bind N2 (ev_pos rfl (ev_pos rfl (Ev.bind (a2same_refl _ ?_) (ev_pos rfl e3)))))
      show (netsW p l).length ≤ maxLen
      rw [netsW_length]; unfold maxLen; omega
    · exact ev_neg hz e3
  -- what is paid
  have O := OwedS_ev p l a b hlm
  rw [owed_ok hv a b ⟨ha, ha2⟩ ⟨hb, hb2⟩] at O
  have S := PayS_ev p l a b (1 + m) hlm
  have I := PayI_ev p l a b (1 + m) hlm
  have hr := payR_len p l a b (1 + m)
  have hcode : codeD p l [a, b] = 0 := code_ok hv _ (fun x hx => by
    simp only [List.mem_cons, List.not_mem_nil, or_false] at hx
    rcases hx with rfl | rfl <;> omega)
  refine Ev.bind eD (ev_bind0 ea (ev_bind0 eb (ev_bind0 en (ev_bind0 em (Ev.bind O ?_)))))
  rw [hw]
  refine Ev.bind I (Ev.bind S (ev_pos rfl (ev_pos rfl (Ev.bind (same_refl (payR p l a b (1 + m)).1 (by unfold maxLen; omega)) (ev_pos rfl ?_)))))
  dsimp only
  by_cases hc : 1 + m ≤ tg (sumT l) a.toNat b.toNat
  · have hpos : 1 ≤ 1 + m ∧ 1 + m ≤ tg (sumT l) a.toNat b.toNat := ⟨by omega, hc⟩
    have P1 := paid_ok T (by omega) (by omega) a b (1 + m) ⟨ha, by omega⟩ ⟨hb, by omega⟩ hpos
    have eR : payR p l a b (1 + m) = (cellsFrom (paidT (sumT l) a b (1 + m)) 0, 0) := by
      unfold payR
      rw [if_pos hcode, vrd2_n, if_pos hpos, list_small P1 (by omega) (by omega)]
    rw [eR] at hr ⊢
    rw [decide_eq_true hc]
    refine Ev.step (fun k => by rw [laws_FnPaid.j0]) ?_
    refine ev_neg (by simp) ?_
    refine ev_pos (c := (0 : Int) = 0) rfl ?_
    have hv2 := cells_valid (p := p) P1 (by omega) hp2 (by omega)
    have O2 := OwedI_ev p (cellsFrom (paidT (sumT l) a b (1 + m)) 0) a b (by unfold maxLen; simp only at hr; omega)
    rw [owed_ok hv2 a b ⟨ha, ha2⟩ ⟨hb, hb2⟩, sum_cells P1 (by omega), paid_tg T (by omega) (by omega) a b (1 + m) ⟨ha, by omega⟩ ⟨hb, by omega⟩ hpos _ _ (by omega) (by omega), if_pos ⟨rfl, rfl⟩] at O2
    have t1 := T a.toNat b.toNat (by omega) (by omega)
    refine Ev.bind O2 (ev_pos rfl (ev_pos ?_ ep))
    rw [wrap_id (by omega) (by omega)]; simp only; omega
  · have eR : payR p l a b (1 + m) = ([], 4) := by
      unfold payR
      rw [if_pos hcode, vrd2_n, if_neg (fun z => hc z.2)]
    rw [eR, decide_eq_false hc]
    refine Ev.step (fun k => by rw [laws_FnPaid.j0]) ?_
    refine ev_neg (by simp) ?_
    exact ev_neg (c := (4 : Int) = 0) (by decide) ep
end Go.Proofs.Ytofcgkcpkngocaa.Pure
