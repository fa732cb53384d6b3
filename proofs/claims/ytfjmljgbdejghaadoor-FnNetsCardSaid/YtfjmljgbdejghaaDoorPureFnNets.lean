/- For all lists of bytes the law of nets holds: joining and offsetting leave all nets as they are, nets sum to nothing, joined debts are one for each pair, and debts are read from their texts; no condition. -/
import Derived.Test.YtfjmljgbdejghaaDoorMNetsx0
import Derived.Test.YtfjmljgbdejghaaDoorMNetsx13
import Derived.Test.YtfjmljgbdejghaaDoorMNetsx15
import Derived.Test.YtfjmljgbdejghaaDoorMNetsx4
import Derived.Test.YtfjmljgbdejghaaDoorVNetsEv
import Derived.Test.YtfjmljgbdejghaaDoorPuAllNets
namespace Go.Proofs.YtfjmljgbdejghaaDoor.Pure
open Go.RowKit Go.Proofs.YtfjmljgbdejghaaDoor.MNets Go.Proofs.YtfjmljgbdejghaaDoorW.PrintWords Go.Proofs.YtfjmljgbdejghaaDoorW.PrintLast Go.Proofs.YtfjmljgbdejghaaDoor.Evs Go.Proofs.YtfjmljgbdejghaaDoor.PuDebtNets Go.Proofs.YtfjmljgbdejghaaDoor.PuDebtSNets Go.Proofs.YtfjmljgbdejghaaDoor.PuSameINets Go.Proofs.YtfjmljgbdejghaaDoor.PuTableNets Go.Proofs.YtfjmljgbdejghaaDoor.PuTableLNets Go.Proofs.YtfjmljgbdejghaaDoor.PuTab2Nets Go.Proofs.YtfjmljgbdejghaaDoor.PuTotNets Go.Proofs.YtfjmljgbdejghaaDoor.PuOffNets Go.Proofs.YtfjmljgbdejghaaDoor.PuPayNets Go.Proofs.YtfjmljgbdejghaaDoor.PuDrawNets
open Go.Proofs.YtfjmljgbdejghaaDoor.PuSumNetsNets (netW netsW netsR NetsS_ev NetsI_ev netsW_length sumR sumD SumI_ev)
open Go.Proofs.YtfjmljgbdejghaaDoor.PuBytNets (mkB)
open Go.Proofs.YtfjmljgbdejghaaDoor.PuDTextNets (dtextR DTextI_ev dtext)
open Go.Proofs.YtfjmljgbdejghaaDoor.PuRDebtNets (readD RDebtI_ev)
open Go.Proofs.YtfjmljgbdejghaaDoor.PuRTripNets (round_trip dtext_len)
set_option linter.unusedVariables false
set_option linter.unusedSimpArgs false

theorem same_refl (a : List D) (h : a.length ≤ maxLen) : Ev (fun k => spec_SameDebts.f k a a) true := by
  have := SameS_ev a a h
  rw [dec_true rfl] at this
  exact this
theorem sameI_refl (a : List D) (h : a.length ≤ maxLen) : Ev (fun k => impl_SameDebts.f k a a) true := by
  have := SameI_ev a a h
  rw [dec_true rfl] at this
  exact this
theorem a2same_refl (a : List Int) (h : a.length ≤ maxLen) : Ev (fun k => spec_A2Same.f k a a) true := by
  unfold spec_A2Same.f
  have := l00Same_ev a a h
  rw [dec_true rfl] at this
  exact Ev.bind this (Ev.now _)
theorem code_ok {p : Int} {l : List D} (hv : valid p l = true) (w : List Int) (h : ∀ a ∈ w, 0 ≤ a ∧ a < p) : codeD p l w = 0 := by
  unfold codeD
  rw [if_pos hv, if_pos]
  unfold arePs
  rw [List.all_eq_true]
  exact fun a ha => decide_eq_true (h a ha)
theorem owed_ok {p : Int} {l : List D} (hv : valid p l = true) (a b : Int) (ha : 0 ≤ a ∧ a < p) (hb : 0 ≤ b ∧ b < p) : owedR p l a b = (tg (sumT l) a.toNat b.toNat, 0) := by
  unfold owedR
  rw [if_pos (code_ok hv [a, b] (fun x hx => by
    rcases List.mem_cons.1 hx with rfl | hx
    · exact ha
    · simp only [List.mem_singleton] at hx
      rw [hx]; exact hb))]
/-! nets sum to nothing -/
def bdx (K : Int) (x : List Int) : Prop := ∀ z ∈ x, -K ≤ z ∧ z ≤ K
theorem sum_set : ∀ (l : List Int) (q : Nat) (y : Int), q < l.length → (l.set q y).sum = l.sum - l.getD q 0 + y
  | [], q, y, h => by simp at h
  | a :: l, 0, y, _ => by simp; omega
  | a :: l, q + 1, y, h => by
    have := sum_set l q y (by simpa using h)
    simp only [List.set_cons_succ, List.sum_cons, List.getD_cons_succ]
    omega
theorem bdx_at {K : Int} {x : List Int} (h : bdx K x) (i : Nat) (hi : i < x.length) : -K ≤ x.getD i 0 ∧ x.getD i 0 ≤ K := by
  rw [getD_lt _ _ _ hi]; exact h _ (List.getElem_mem hi)
theorem bdx_set {K : Int} {x : List Int} (h : bdx K x) (i : Nat) (y : Int) (hy : -K ≤ y ∧ y ≤ K) : bdx K (x.set i y) := by
  intro z hz
  rcases List.mem_or_eq_of_mem_set hz with hz | hz
  · exact h z hz
  · rw [hz]; exact hy
theorem netW_sum {K : Int} {x : List Int} (h : bdx K x) (hK : 0 ≤ K ∧ K ≤ 1000000) (d : D) (h0 : 0 ≤ d.f0 ∧ d.f0 < (x.length : Int)) (h1 : 0 ≤ d.f1 ∧ d.f1 < (x.length : Int)) (h2 : 1 ≤ d.f2 ∧ d.f2 ≤ 60) :
    (netW x d).sum = x.sum ∧ bdx (K + 60) (netW x d) ∧ (netW x d).length = x.length := by
  have b0 := bdx_at h d.f0.toNat (by omega)
  have e0 : wrap64 (rd x d.f0 - d.f2) = x.getD d.f0.toNat 0 - d.f2 := wrap_id (by show _ ≤ x.getD d.f0.toNat 0 - d.f2; omega) (by show x.getD d.f0.toNat 0 - d.f2 ≤ _; omega)
  have bK : bdx (K + 60) x := fun z hz => by have := h z hz; omega
  have B1 := bdx_set bK d.f0.toNat (x.getD d.f0.toNat 0 - d.f2) (by omega)
  unfold netW
  rw [e0]
  have s1 := sum_set x d.f0.toNat (x.getD d.f0.toNat 0 - d.f2) (by omega)
  have l1 : (x.set d.f0.toNat (x.getD d.f0.toNat 0 - d.f2)).length = x.length := List.length_set
  have g1 : -K - 60 ≤ (x.set d.f0.toNat (x.getD d.f0.toNat 0 - d.f2)).getD d.f1.toNat 0 ∧ (x.set d.f0.toNat (x.getD d.f0.toNat 0 - d.f2)).getD d.f1.toNat 0 ≤ K := by
    rw [getD_set x d.f0.toNat d.f1.toNat _ (by omega)]
    by_cases e : d.f1.toNat = d.f0.toNat
    · rw [if_pos e]; omega
    · rw [if_neg e]
      have := bdx_at h d.f1.toNat (by omega)
      omega
  generalize x.set d.f0.toNat (x.getD d.f0.toNat 0 - d.f2) = y at B1 s1 l1 g1 ⊢
  have e1 : wrap64 (rd y d.f1 + d.f2) = y.getD d.f1.toNat 0 + d.f2 := wrap_id (by show _ ≤ y.getD d.f1.toNat 0 + d.f2; omega) (by show y.getD d.f1.toNat 0 + d.f2 ≤ _; omega)
  rw [e1]
  have s2 := sum_set y d.f1.toNat (y.getD d.f1.toNat 0 + d.f2) (by omega)
  refine ⟨by omega, bdx_set B1 _ _ (by omega), by rw [List.length_set]; omega⟩
theorem fold_sum {p : Int} (hp : p ≤ 16) : ∀ (l : List D) (x : List Int) (K : Int), bdx K x → 0 ≤ K → K + 60 * l.length ≤ 1000000 → (x.length : Int) = p → (∀ d ∈ l, drawnD p d) → (l.foldl netW x).sum = x.sum ∧ bdx (K + 60 * l.length) (l.foldl netW x)
  | [], x, K, h, _, _, _, _ => ⟨rfl, by simpa using h⟩
  | d :: l, x, K, h, h0, hK, hx, hd => by
    rw [List.length_cons] at hK
    have hdd := hd d (by simp)
    unfold drawnD at hdd
    obtain ⟨s, b, n⟩ := netW_sum h (by omega) d (by omega) (by omega) (by omega)
    obtain ⟨s2, b2⟩ := fold_sum hp l (netW x d) (K + 60) b (by omega) (by omega) (by omega) (fun z hz => hd z (by simp [hz]))
    refine ⟨s2.trans s, ?_⟩
    intro z hz
    have := b2 z hz
    rw [List.length_cons]
    omega
theorem a2sum_ev (x : List Int) (K : Int) (h : bdx K x) (hK : 0 ≤ K ∧ K ≤ 1000000) (hl : x.length ≤ 16) : Ev (fun k => spec_A2Sum.f k x) x.sum := by
  unfold spec_A2Sum.f
  have key := ev_forI (σ := Int) (n := x.length) (G := fun k s i => spec_A2Sum.l0 k x s i) (F := fun s i => s + (x.drop i).sum) (I := fun s i => -(1000000 * (i : Int)) ≤ s ∧ s ≤ 1000000 * i) ?_ ?_ 0 (by omega) 0 (by omega)
  · simpa using key
  · intro i hi ih s hs
    have hb := bdx_at h i hi
    refine Ev.step (fun k => by simp only [spec_A2Sum.l0]; rfl) ?_
    refine ev_pos (by omega) (ev_pos (by omega) ?_)
    have e : rd x (i : Int) = x.getD i 0 := rfl
    rw [e, wrap_id (x := s + x.getD i 0) (by omega) (by omega), wrap_up hi (by omega)]
    refine ev_eq (ih _ (by omega)) ?_
    rw [List.drop_eq_getElem_cons hi, List.sum_cons, getD_lt _ _ _ hi]
    omega
  · intro s hs
    refine Ev.step (fun k => by simp only [spec_A2Sum.l0]; rfl) ?_
    refine ev_neg (by omega) ?_
    rw [List.drop_length]
    simp only [List.sum_nil, Int.add_zero]
    exact Ev.now _
/-! joined debts rise -/
theorem cells_at {t : Tb} : ∀ (d q : Nat), q + d = 256 → ∀ i, (hi : i < (cellsFrom t q).length) → ∃ x, q ≤ x ∧ x < 256 ∧ (cellsFrom t q)[i] = dq t x ∧ 0 < tq t x ∧ ∀ j, (hj : j < i) → ∃ y, y < x ∧ q ≤ y ∧ (cellsFrom t q)[j]'(Nat.lt_trans hj hi) = dq t y
  | 0, q, h, i, hi => by
    have : q = 256 := by omega
    subst this
    rw [cells_end] at hi
    simp at hi
  | d + 1, q, h, i, hi => by
    have hc := cells_step t q (by omega)
    by_cases h0 : 0 < tq t q
    · rw [if_pos h0] at hc
      cases i with
      | zero =>
        refine ⟨q, by omega, by omega, ?_, h0, fun j hj => by omega⟩
        simp only [hc]
        rfl
      | succ i =>
        have hi2 : i < (cellsFrom t (q + 1)).length := by rw [hc] at hi; simpa using hi
        obtain ⟨x, x1, x2, x3, x4, x5⟩ := cells_at d (q + 1) (by omega) i hi2
        refine ⟨x, by omega, x2, ?_, x4, fun j hj => ?_⟩
        · simp only [hc]
          exact x3
        · cases j with
          | zero =>
            refine ⟨q, by omega, by omega, ?_⟩
            simp only [hc]
            rfl
          | succ j =>
            obtain ⟨y, y1, y2, y3⟩ := x5 j (by omega)
            refine ⟨y, y1, by omega, ?_⟩
            simp only [hc]
            exact y3
    · rw [if_neg h0] at hc
      have hi2 : i < (cellsFrom t (q + 1)).length := by rw [hc] at hi; exact hi
      obtain ⟨x, x1, x2, x3, x4, x5⟩ := cells_at d (q + 1) (by omega) i hi2
      refine ⟨x, by omega, x2, ?_, x4, fun j hj => ?_⟩
      · simp only [hc]
        exact x3
      · obtain ⟨y, y1, y2, y3⟩ := x5 j hj
        refine ⟨y, y1, by omega, ?_⟩
        simp only [hc]
        exact y3
theorem wf8 {n : Int} (h : (Lit.int .u8 n).wf = true) : 0 ≤ n ∧ n ≤ 255 := by
  simp [Lit.wf, IntKind.min, IntKind.max, IntKind.signed, IntKind.bits] at h
  exact h
theorem valid_16 {p : Int} {l : List D} (hv : valid p l = true) : valid 16 l = true := by
  obtain ⟨h1, h2, h3, h4⟩ := Go.Proofs.YtfjmljgbdejghaaDoor.PuSumNetsNets.valid_bd hv
  unfold valid
  rw [Bool.and_eq_true, decide_eq_true_eq, List.all_eq_true]
  exact ⟨by omega, fun d hd => okD_true (by have := h4 d hd; omega)⟩
theorem FnNets (l0 : List Int) (h0 : l0.length ≤ maxLen) (w0 : ∀ z ∈ l0, (Lit.int .u8 z).wf = true) : ∃ k, laws_FnNets.f k l0 = some true := by
  refine Ev.rounds (r := true) ?_
  unfold laws_FnNets.f laws_a2Long.f
  by_cases g0 : (l0.length : Int) > 3000
  · rw [if_pos g0]; exact ev_bind0 rfl (ev_pos rfl (Ev.now _))
  rw [if_neg g0, decide_eq_false g0]
  refine ev_bind0 rfl (ev_neg (by simp) ?_)
  have b0 : byteL l0 := ⟨by omega, fun x hx => wf8 (w0 x hx)⟩
  obtain ⟨p, l, eD, hp, hp2, hl8, hd⟩ := drawn_ev b0
  have hv := drawn_valid hp hp2 hl8 hd
  have hlm : l.length ≤ maxLen := by unfold maxLen; omega
  have hsm : ∀ d ∈ l, smallD p.toNat 60 d := fun d hdm => by
    have := hd d hdm
    unfold drawnD at this
    unfold smallD
    omega
  obtain ⟨T0, H0⟩ := sum_both (p := p) (l := l) (m := 60) (by omega) (by omega) (by omega) (by omega) hsm
  have T : tabOk p.toNat 480 (sumT l) := fun x y hx hy => by
    have := T0 x y hx hy
    exact ⟨this.1, by omega, this.2.2⟩
  have eS : sumD l = tot (sumT l) := tot_sum (p := p.toNat) (m := 60) (by omega) (by omega) (by omega) hsm
  have hjoin : joinR p l = (cellsFrom (sumT l) 0, 0) := by
    unfold joinR
    rw [if_pos hv, list_small T (by omega) (by omega)]
  obtain ⟨U, hnet, _, _⟩ := offAll_ok (show (480 : Int) ≤ 1000000000000 by omega) 16 0 (sumT l) (by omega) T
  have hzero := fun a b ha hb hpos => off_zero T (show (480 : Int) ≤ 1000000000000 by omega) a b ha hb hpos
  have hoff : offR p l = (cellsFrom (offAll 16 0 (sumT l)) 0, 0) := by
    unfold offR
    rw [if_pos (by rw [hjoin]), list_small U (by omega) (by omega)]
  generalize offAll 16 0 (sumT l) = u at U hnet hzero hoff
  have hfj := few_cells T (by omega)
  have hfu := few_cells U (by omega)
  have hvj := cells_valid (p := p) T (by omega) hp2 (by omega)
  have hvu := cells_valid (p := p) U (by omega) hp2 (by omega)
  have hjm : (cellsFrom (sumT l) 0).length ≤ maxLen := by unfold maxLen; omega
  have hum : (cellsFrom u 0).length ≤ maxLen := by unfold maxLen; omega
  have hhj := cells_nets (p := p) T (by omega) hp2 (by omega) (by omega)
  have hhu := cells_nets (p := p) U (by omega) hp2 (by omega) (by omega)
  have en : ∀ l : List D, valid p l = true → netsR p l = (netsW p l, 0) := fun l h => by unfold netsR; rw [if_pos h]
  have N1 := NetsI_ev p l hlm
  have N2 := NetsS_ev p l hlm
  rw [en l hv] at N1 N2
  have hnl := netsW_length p l
  have hnm : (netsW p l).length ≤ maxLen := by rw [hnl]; unfold maxLen; omega
  have J1 := JoinI_ev p l hlm
  have J2 := JoinS_ev p l hlm
  rw [hjoin] at J1 J2
  have O1 := OffI_ev p l hlm
  have O2 := OffS_ev p l hlm
  rw [hoff] at O1 O2
  have v16 := valid_16 hv
  have D1 := DTextI_ev l hlm
  have dl : (dtextR l).length ≤ 1000 := by
    unfold dtextR
    rw [if_pos v16]
    have := dtext_len l (fun d hd => by
      have h := v16
      unfold valid at h
      simp only [Bool.and_eq_true, List.all_eq_true] at h
      exact h.2 d hd)
    omega
  have R1 := RDebtI_ev (dtextR l) (by omega)
  rw [round_trip l v16] at R1
  obtain ⟨sm, bx⟩ := fold_sum (p := p) (by omega) l (List.replicate p.toNat 0) 0 (fun z hz => by rw [List.mem_replicate] at hz; omega) (by omega) (by omega) (by simp; omega) hd
  have A2 := a2sum_ev (netsW p l) (0 + 60 * l.length) bx (by omega) (by rw [hnl]; omega)
  have s0 : (netsW p l).sum = 0 := by
    show (l.foldl netW (List.replicate p.toNat 0)).sum = 0
    rw [sm]
    have : ∀ n, (List.replicate n (0 : Int)).sum = 0 := by
      intro n
      induction n with
      | zero => rfl
      | succ n ih => rw [List.replicate_succ, List.sum_cons, ih]; rfl
    exact this _
  rw [s0] at A2
  have V1 := ValidI_ev p l hlm
  rw [hv] at V1
  refine Ev.bind eD (Ev.bind N1 (Ev.bind N2 (Ev.bind J1 (Ev.bind J2 (Ev.bind O1 (Ev.bind O2 (Ev.bind D1 (Ev.bind R1 (ev_pos rfl (ev_pos rfl (Ev.bind (a2same_refl _ hnm) (ev_pos rfl (Ev.bind A2 (ev_pos rfl (ev_pos rfl (ev_pos rfl ?_))))))))))))))))
  refine Ev.bind (same_refl _ hjm) (ev_pos rfl (ev_pos rfl (ev_pos rfl (Ev.bind (same_refl _ hum) (ev_pos rfl (ev_pos rfl (Ev.bind (sameI_refl _ hlm) (ev_pos rfl (Ev.bind (same_refl _ hlm) (ev_pos rfl (Ev.bind V1 ?_)))))))))))
  dsimp only
  refine Ev.step (fun k => by simp only [laws_FnNets.j0]; rfl) (ev_neg (by decide) ?_)
  have e1 : netsW p (cellsFrom (sumT l) 0) = netsW p l := nets_eq hhj H0 (fun i hi => rfl)
  have e2 : netsW p (cellsFrom u 0) = netsW p l := nets_eq hhu H0 (fun i hi => hnet i (by omega))
  have N3 := NetsI_ev p (cellsFrom (sumT l) 0) hjm
  have N4 := NetsI_ev p (cellsFrom u 0) hum
  rw [en _ hvj, e1] at N3
  rw [en _ hvu, e2] at N4
  have S1 := SumI_ev p l hlm
  have eS1 : sumR p l = (tot (sumT l), 0) := by unfold sumR; rw [if_pos hv, eS]
  rw [eS1] at S1
  have S2 := SumI_ev p (cellsFrom (sumT l) 0) hjm
  have eS2 : sumR p (cellsFrom (sumT l) 0) = (tot (sumT l), 0) := by unfold sumR; rw [if_pos hvj, tot_cells T (by omega) (by omega) (by omega)]
  rw [eS2] at S2
  refine Ev.bind N3 (Ev.bind N4 (Ev.bind S1 (Ev.bind S2 (ev_pos rfl (ev_pos rfl (Ev.bind (a2same_refl _ hnm) (ev_pos rfl (Ev.bind (a2same_refl _ hnm) (ev_pos rfl (ev_pos rfl (ev_pos rfl ?_)))))))))))
  rw [bne_self_eq_false]
  refine Ev.step (fun k => by simp only [laws_FnNets.j1]; rfl) (ev_neg (by decide) ?_)
  -- what is offset owes nothing back
  have last : Ev (fun k => laws_FnNets.l1 k p (cellsFrom u 0) 0) true := by
    have key := ev_for (σ := Unit) (n := (cellsFrom u 0).length) (G := fun k _ i => laws_FnNets.l1 k p (cellsFrom u 0) i) (F := fun _ _ => true) ?_ ?_ 0 (by omega) ()
    · exact key
    · intro i hi ih _
      obtain ⟨x, x1, x2, x3, x4, _⟩ := cells_at 256 0 (by omega) i hi
      have hm := cells_mem U (List.getElem_mem hi)
      refine Ev.step (fun k => by simp only [laws_FnNets.l1]; rfl) ?_
      refine ev_pos (by omega) (ev_pos (by omega) ?_)
      rw [rdD _ i hi, wrap_up hi (by omega)]
      have ow := OwedI_ev p (cellsFrom u 0) (cellsFrom u 0)[i].f1 (cellsFrom u 0)[i].f0 hum
      unfold smallD at hm
      rw [owed_ok hvu _ _ (by omega) (by omega), sum_cells U (by omega)] at ow
      have hz : tg u (cellsFrom u 0)[i].f1.toNat (cellsFrom u 0)[i].f0.toNat = 0 := by
        rw [x3]
        refine hzero (x / 16) (x % 16) (by omega) (by omega) ?_
        exact x4
      rw [hz] at ow
      exact Ev.bind ow (ev_pos rfl (ev_pos rfl (ih ())))
    · intro _
      refine Ev.step (fun k => by simp only [laws_FnNets.l1]; rfl) ?_
      exact ev_neg (by omega) (Ev.now _)
  have key := ev_for (σ := Unit) (n := (cellsFrom (sumT l) 0).length) (G := fun k _ i => laws_FnNets.l0 k p l (cellsFrom (sumT l) 0) (cellsFrom u 0) i) (F := fun _ _ => true) ?_ ?_ 0 (by omega) ()
  · exact key
  · intro i hi ih _
    obtain ⟨x, x1, x2, x3, x4, x5⟩ := cells_at 256 0 (by omega) i hi
    have hm := cells_mem T (List.getElem_mem hi)
    refine Ev.step (fun k => by simp only [laws_FnNets.l0]; rfl) ?_
    refine ev_pos (by omega) (ev_pos (by omega) ?_)
    rw [rdD _ i hi, wrap_up hi (by omega)]
    have ow := OwedI_ev p l (cellsFrom (sumT l) 0)[i].f0 (cellsFrom (sumT l) 0)[i].f1 hlm
    unfold smallD at hm
    rw [owed_ok hv _ _ (by omega) (by omega)] at ow
    have hz : tg (sumT l) (cellsFrom (sumT l) 0)[i].f0.toNat (cellsFrom (sumT l) 0)[i].f1.toNat = (cellsFrom (sumT l) 0)[i].f2 := by
      rw [x3]; rfl
    rw [hz] at ow
    refine Ev.bind ow (ev_pos rfl (ev_pos rfl ?_))
    by_cases h00 : (i : Int) > 0
    · refine ev_pos h00 ?_
      obtain ⟨y, y1, y2, y3⟩ := x5 (i - 1) (by omega)
      rw [wrap_id (x := (i : Int) - 1) (by omega) (by omega), show (i : Int) - 1 = ((i - 1 : Nat) : Int) by omega, rdD _ (i - 1) (by omega)]
      refine ev_pos (by omega) (ev_pos (by omega) ?_)
      rw [x3, y3]
      have f0 : (dq (sumT l) x).f0 = ((x / 16 : Nat) : Int) := rfl
      have f1 : (dq (sumT l) x).f1 = ((x % 16 : Nat) : Int) := rfl
      have g0 : (dq (sumT l) y).f0 = ((y / 16 : Nat) : Int) := rfl
      have g1 : (dq (sumT l) y).f1 = ((y % 16 : Nat) : Int) := rfl
      rw [f0, f1, g0, g1]
      refine ev_neg (by omega) ?_
      by_cases hq : ((x / 16 : Nat) : Int) = ((y / 16 : Nat) : Int)
      · exact ev_pos hq (ev_neg (by omega) (ih ()))
      · exact ev_neg hq (ih ())
    · exact ev_neg h00 (ih ())
  · intro _
    refine Ev.step (fun k => by simp only [laws_FnNets.l0]; rfl) ?_
    exact ev_neg (by omega) last
end Go.Proofs.YtfjmljgbdejghaaDoor.Pure
