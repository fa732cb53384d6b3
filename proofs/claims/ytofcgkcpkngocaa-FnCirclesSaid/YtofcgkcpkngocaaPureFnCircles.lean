/- For all bytes the law FnCircles returns true: a circle that is found is one, and cancelling it takes its least debt from each; where circles are cleared there is none, and all nets are as before; no condition. -/
import Derived.Test.YtofcgkcpkngocaaMCirclesx0
import Derived.Test.YtofcgkcpkngocaaMCirclesx14
import Derived.Test.YtofcgkcpkngocaaMCirclesx15
import Derived.Test.YtofcgkcpkngocaaMCirclesx17
import Derived.Test.YtofcgkcpkngocaaVCirclesEv
import Derived.Test.YtofcgkcpkngocaaPuDebtCircles
import Derived.Test.YtofcgkcpkngocaaPuDebtSCircles
import Derived.Test.YtofcgkcpkngocaaPuSameICircles
import Derived.Test.YtofcgkcpkngocaaPuTableCircles
import Derived.Test.YtofcgkcpkngocaaPuTableLCircles
import Derived.Test.YtofcgkcpkngocaaPuSumNetsCircles
import Derived.Test.YtofcgkcpkngocaaPuTab2Circles
import Derived.Test.YtofcgkcpkngocaaPuDrawCircles
import Derived.Test.YtofcgkcpkngocaaPuCircCircles
import Derived.Test.YtofcgkcpkngocaaPuCancelCircles
import Derived.Test.YtofcgkcpkngocaaPuClearCircles
import Derived.Test.YtofcgkcpkngocaaPuClear2Circles
import Derived.Test.YtofcgkcpkngocaaPuIsClCircles
namespace Go.Proofs.Ytofcgkcpkngocaa.Pure
open Go.RowKit MCircles Go.Proofs.YtofcgkcpkngocaaW.PrintWords Go.Proofs.YtofcgkcpkngocaaW.PrintLast Evs PuDebtCircles PuDebtSCircles PuSameICircles PuTableCircles PuTableLCircles PuTab2Circles PuDrawCircles PuCircCircles PuCancelCircles PuClearCircles PuClear2Circles PuIsClCircles
open PuSumNetsCircles (netsW netsR NetsS_ev NetsI_ev netsW_length sumR sumD SumI_ev)
set_option linter.unusedVariables false
set_option linter.unusedSimpArgs false

theorem same_refl (a : List D) (h : a.length ≤ maxLen) : Ev (fun k => spec_SameDebts.f k a a) true := by
  have := SameS_ev a a h
  rw [dec_true rfl] at this
  exact this
theorem a2same_refl (a : List Int) (h : a.length ≤ maxLen) : Ev (fun k => spec_A2Same.f k a a) true := by
  unfold spec_A2Same.f
  have := l00Same_ev a a h
  rw [dec_true rfl] at this
  exact Ev.bind this (Ev.now _)
theorem code_ok {p : Int} {l : List D} (hv : valid p l = true) (w : List Int) (h : ∀ a ∈ w, 0 ≤ a ∧ a < p) : codeD p l w = 0 := by
  unfold codeD
  rw [if_pos hv, if_pos]
  unfold arePs
  rw [List.all_eq_true]
  exact fun a ha => decide_eq_true (h a ha)
theorem owed_ok {p : Int} {l : List D} (hv : valid p l = true) (a b : Int) (ha : 0 ≤ a ∧ a < p) (hb : 0 ≤ b ∧ b < p) : owedR p l a b = (tg (sumT l) a.toNat b.toNat, 0) := by
  unfold owedR
  rw [if_pos (code_ok hv [a, b] (fun x hx => by
    rcases List.mem_cons.1 hx with rfl | hx
    · exact ha
    · have := List.mem_singleton.1 hx; rw [this]; exact hb))]
theorem round_good {t : Tb} {c : List Int} (hg : goodC t c) : (roundS c && !decide (leastS t c = 0)) = true := by
  have h1 := least_pos hg
  rw [decide_eq_false o_]
  unfold roundS newsF
  have h2 := hg.2.1
  rw [Bool.and_eq_true, Bool.and_eq_true, List.all_eq_true]
  refine ⟨⟨fun i hi => ?_, decide_eq_true o_⟩, rfl⟩
  have hi2 := List.mem_range'_1.1 hi
  unfold newAt
  rw [decide_eq_false]
  · rfl
  intro z
  obtain ⟨j, hj, e⟩ := List.getElem_of_mem z
  rw [List.length_take] at hj
  rw [List.getElem_take, getD_lt c 0 i o_] at e
  exact List.pairwise_iff_getElem.1 hg.2.2.1 j i o_ o_ o_ e
theorem in_people {p : Nat} {B : Int} {t : Tb} {c : List Int} (h : tabOk p B t) (hg : goodC t c) : ∀ x ∈ c, 0 ≤ x ∧ x < (p : Int) := by
  intro x hx
  obtain ⟨i, hi, e⟩ := List.getElem_of_mem hx
  have h16 := hg.1.2 x hx
  have hpos := hg.2.2.2 i hi
  have el := eA_lt hg.1.2 hi
  rw [cell_e] at hpos
  have h3 := (h (eA c i) (eB c i) el.1 el.2).2.2 hpos
  have e2 : eA c i = x.toNat := by unfold eA; rw [getD_lt c 0 i hi, e]
  omega
theorem circle_loop {p : Int} {l : List D} {c : List Int} {B : Int} (hv : valid p l = true) (hp : p ≤ 6) (hB0 : 0 ≤ B) (hB : B ≤ 1000000) (T : tabOk p.toNat B (sumT l)) (H : holds p.toNat (sumT l) (netsW p l)) (hg : goodC (sumT l) c) (hl18 : c.length ≤ 18) :
    Ev (fun k => laws_FnCircles.l0 k p l c (cellsFrom (cancelT (sumT l) c (leastS (sumT l) c)) 0) (leastS (sumT l) c) false 0) true := by
  obtain ⟨hp1, hp2, h60, hd⟩ := valid_bd hv
  have hlm : l.length ≤ maxLen := by unfold maxLen; omega
  have hok := cancel_ok T o_ hg
  have hv2 := cells_valid (p := p) hok hp1 hp o_
  have hf := few_cells hok o_
  have hh := cells_nets (p := p) hok hp1 hp hB0 o_
  have hs := leastS_spec (sumT l) c (good_pos hg)
  have h1 := least_pos hg
  have hpre := (pre_tg hg (bd_of T) o_ (show 0 ≤ leastS (sumT l) c by omega) hs.1 c.length (Nat.le_refl _)).2.1
  rw [← cancelT_pre] at hpre
  have hin := in_people T hg
  have hcp := good_pos hg
  refine ev_forI (n := c.length) (G := fun k (x : Bool) i => laws_FnCircles.l0 k p l c (cellsFrom (cancelT (sumT l) c (leastS (sumT l) c)) 0) (leastS (sumT l) c) x i) (F := fun _ _ => true) (I := fun x i => (∃ j, j < i ∧ cellC (sumT l) c j = leastS (sumT l) c) → x = true) (fun i hi ih x hI => ?_) (fun x hI => ?_) 0 o_ false (fun ⟨j, hj, _⟩ => absurd hj o_)
  · have hm : (i + 1) % c.length < c.length := Nat.mod_lt _ o_
    have q1 := hin c[i] (List.getElem_mem hi)
    have q2 := hin c[(i + 1) % c.length] (List.getElem_mem hm)
    rw [← getD_lt c 0 i hi] at q1
    rw [← getD_lt c 0 _ hm] at q2
    have O1 := OwedI_ev p l (c.getD i 0) (c.getD ((i + 1) % c.length) 0) hlm
    rw [owed_ok hv _ _ ⟨q1.1, by omega⟩ ⟨q2.1, by omega⟩] at O1
    have O2 := OwedI_ev p (cellsFrom (cancelT (sumT l) c (leastS (sumT l) c)) 0) (c.getD i 0) (c.getD ((i + 1) % c.length) 0) (by unfold maxLen; omega)
    rw [owed_ok hv2 _ _ ⟨q1.1, by omega⟩ ⟨q2.1, by omega⟩, sum_cells hok o_] at O2
    have hcell : tg (sumT l) (c.getD i 0).toNat (c.getD ((i + 1) % c.length) 0).toNat = cellC (sumT l) c i := rfl
    have hcell2 : tg (cancelT (sumT l) c (leastS (sumT l) c)) (c.getD i 0).toNat (c.getD ((i + 1) % c.length) 0).toNat = cellC (sumT l) c i - leastS (sumT l) c := hpre i hi
    have hle := hs.1 i hi
    have hbc := bd_of T (eA c i) (eB c i) (eA_lt hg.1.2 hi).1 (eA_lt hg.1.2 hi).2
    rw [← cell_e] at hbc
    rw [hcell] at O1
    rw [hcell2] at O2
    refine Ev.step (fun k => by rw [laws_FnCircles.l0, tmod_up hi o_, rd_n, rd_n, wrap_up hi o_]) ?_
    refine ev_pos o_ (ev_neg o_ (ev_pos o_ (ev_pos o_ (ev_pos o_ (Ev.bind O1 (Ev.bind O2 (ev_pos rfl (ev_pos rfl (ev_pos ?_ ?_)))))))))
    · rw [wrap_id o_ o_]; omega
    · cases x with
      | true => exact ev_pos rfl (ih true (fun _ => rfl))
      | false =>
        refine ev_neg (by simp) (ih _ (fun ⟨j, hj, e⟩ => ?_))
        by_cases ej : j = i
        · rw [ej] at e
          rw [e]; simp
        · have := hI ⟨j, by omega, e⟩
          cases this
  · obtain ⟨j, hj, e⟩ := hs.2
    have hx := hI ⟨j, hj, e.symm⟩
    have N1 := NetsS_ev p l hlm
    have N2 := NetsI_ev p (cellsFrom (cancelT (sumT l) c (leastS (sumT l) c)) 0) (by unfold maxLen; omega)
    have eN : netsR p l = (netsW p l, 0) := if_pos hv
    have eN2 : netsR p (cellsFrom (cancelT (sumT l) c (leastS (sumT l) c)) 0) = (netsW p (cellsFrom (cancelT (sumT l) c (leastS (sumT l) c)) 0), 0) := if_pos hv2
    rw [eN] at N1
    rw [eN2, ← nets_eq H hh (fun i hi => (cancel_net T o_ hg i o_).symm)] at N2
    refine Ev.step (fun k => by rw [laws_FnCircles.l0]) (ev_neg o_ (Ev.bind N1 (Ev.bind N2 (ev_pos hx (ev_pos rfl (ev_pos rfl (Ev.bind (a2same_refl _ ?_) (Ev.now _))))))))
    show (netsW p l).length ≤ maxLen
    rw [netsW_length]; unfold maxLen; omega
theorem wf8 {n : Int} (h : (Lit.int .u8 n).wf = true) : 0 ≤ n ∧ n ≤ 255 := by
  simp [Lit.wf, IntKind.min, IntKind.max, IntKind.signed, IntKind.bits] at h
  exact h
theorem FnCircles (l0 : List Int) (h0 : l0.length ≤ maxLen) (w0 : ∀ z ∈ l0, (Lit.int .u8 z).wf = true) : ∃ k, laws_FnCircles.f k l0 = some true := by
  refine Ev.rounds (r := true) ?_
  unfold laws_FnCircles.f laws_a2Long.f
  by_cases g0 : (l0.length : Int) > 3000
  · rw [if_pos g0]; exact ev_bind0 rfl (ev_pos rfl (Ev.now _))
  rw [if_neg g0, decide_eq_false g0]
  refine ev_bind0 rfl (ev_neg (by simp) ?_)
  have b0 : byteL l0 := ⟨by omega, fun x hx => wf8 (w0 x hx)⟩
  obtain ⟨p, l, eD, hp, hp2, hl8, hd⟩ := drawn_ev b0
  have hv := drawn_valid hp hp2 hl8 hd
  have hlm : l.length ≤ maxLen := by unfold maxLen; omega
  have hsm : ∀ d ∈ l, smallD p.toNat 60 d := fun d hdm => by
    have := hd d hdm
    unfold drawnD at this
    unfold smallD
    omega
  obtain ⟨T0, H0⟩ := sum_both (p := p) (l := l) (m := 60) o_ o_ o_ o_ hsm
  have T : tabOk p.toNat 480 (sumT l) := fun x y hx hy => by
    have := T0 x y hx hy
    exact ⟨this.1, by omega, this.2.2⟩
  have eS : sumD l = tot (sumT l) := tot_sum (p := p.toNat) (m := 60) o_ o_ o_ hsm
  have hnn := tot_nn (bd_of T)
  have htot : tot (sumT l) ≤ 480 := by
    rw [← eS]
    have : ∀ (l : List D), (∀ d ∈ l, d.f2 ≤ 60) → sumD l ≤ l.length * 60 := by
      intro l
      induction l with
      | nil => intro _; simp [sumD]
      | cons d l ih =>
        intro h
        have h1 := h d (List.mem_cons_self ..)
        have h2 := ih (fun z hz => h z (List.mem_cons_of_mem _ hz))
        have h3 : sumD (d :: l) = d.f2 + sumD l := rfl
        rw [List.length_cons]; omega
    have := this l (fun d hdm => by have := hd d hdm; unfold drawnD at this; omega)
    omega
  obtain ⟨u, C1, C2, U, hun, hnet, hsame⟩ := clear_good hv hp2 o_ o_ T o_
  have hjoin : joinR p l = (cellsFrom (sumT l) 0, 0) := by
    unfold joinR
    rw [if_pos hv, list_small T o_ o_]
  have hfind : findR p l = (listO (circleM (sumT l)), codeO (circleM (sumT l))) := by
    unfold findR
    rw [if_pos (by rw [hjoin])]
  have F1 := FindI_ev p l hlm
  have F2 := FindS_ev p l hlm
  have hfl := findR_length p l
  rw [hfind] at F1 F2 hfl
  have hfu := few_cells U o_
  have hvu := cells_valid (p := p) U o_ hp2 o_
  have hum : (cellsFrom u 0).length ≤ maxLen := by unfold maxLen; omega
  refine Ev.bind eD (Ev.bind F1 (Ev.bind F2 (Ev.bind C2 (Ev.bind C1 (ev_pos rfl (Ev.bind (a2same_refl (listO (circleM (sumT l))) (by unfold maxLen; simp only at hfl; omega)) (ev_pos rfl (ev_pos rfl (ev_pos rfl (ev_pos rfl (Ev.bind (same_refl _ hum) ?_)))))))))))
  dsimp only
  -- it is cleared
  have I1 := clearI_ev p l (cellsFrom u 0) hlm hum
  have hh := cells_nets (p := p) U o_ hp2 o_ o_
  have eI : clearR p l (cellsFrom u 0) = (true, 0) := by
    unfold clearR
    rw [if_pos ⟨hv, hvu⟩, sum_cells U o_, hun, dec_true (nets_eq H0 hh (fun i hi => (hnet i o_).symm))]
    rfl
  rw [eI] at I1
  have F3 := FindI_ev p (cellsFrom u 0) hum
  have eF3 : findR p (cellsFrom u 0) = ([], 6) := by
    unfold findR joinR
    rw [if_pos hvu, sum_cells U o_, list_small U o_ o_, hun]
    rfl
  rw [eF3] at F3
  have S1 := SumI_ev p l hlm
  have eS1 : sumR p l = (tot (sumT l), 0) := by unfold sumR; rw [if_pos hv, eS]
  rw [eS1] at S1
  have S2 := SumI_ev p (cellsFrom u 0) hum
  have eS2 : sumR p (cellsFrom u 0) = (tot u, 0) := by unfold sumR; rw [if_pos hvu, tot_cells U o_ o_ o_]
  rw [eS2] at S2
  have hnu := tot_nn (bd_of U)
  have ew : (tot (sumT l) != wrap64 (tot u + (tot (sumT l) - tot u))) = false := by
    rw [wrap_id o_ o_, show tot u + (tot (sumT l) - tot u) = tot (sumT l) by omega]
    simp
  refine Ev.step (fun k => by simp only [laws_FnCircles.j0]; rfl) (ev_neg (by simp) (Ev.bind I1 (Ev.bind F3 (Ev.bind S1 (Ev.bind S2 (ev_pos rfl (ev_pos rfl (ev_pos rfl (ev_pos rfl (ev_pos rfl ?_))))))))))
  dsimp only
  rw [ew]
  refine Ev.step (fun k => by simp only [laws_FnCircles.j1]; rfl) (ev_neg (by simp) ?_)
  cases hc : circleM (sumT l) with
  | none =>
    have hu := hsame hc
    have J := JoinS_ev p l hlm
    rw [hjoin] at J
    refine ev_neg (show ¬ codeO none = 0 by decide) (Ev.bind J (ev_pos (show codeO none = 6 by decide) (ev_pos rfl ?_)))
    dsimp only
    rw [hu] at hum ⊢
    refine Ev.bind (same_refl _ hum) (ev_pos rfl (ev_eq (Ev.now _) ?_))
    rw [show tot (sumT l) - tot (sumT l) = 0 by omega]; rfl
  | some c =>
    have hg := circleM_good (bd_of T) hc
    have hl18 := circleM_len hc
    have ec : listO (some c) = c := rfl
    rw [ec]
    have hcm : c.length ≤ maxLen := by unfold maxLen; omega
    have X1 := CancelI_ev p l c hlm hcm
    have X2 := CancelS_ev p l c hlm hcm
    have hin := in_people T hg
    have hok := cancel_ok T o_ hg
    have h1 := least_pos hg
    have eX : cancelR p l c = (cellsFrom (cancelT (sumT l) c (leastS (sumT l) c)) 0, leastS (sumT l) c, 0) := by
      unfold cancelR cancelR2
      rw [if_pos (code_ok hv c (fun x hx => by have := hin x hx; omega)), if_pos (round_good hg), list_small T o_ o_, list_small hok o_ o_, if_pos rfl, if_pos rfl]
    rw [eX] at X1 X2
    have hf := few_cells hok o_
    refine ev_pos (show codeO (some c) = 0 from rfl) (Ev.bind X1 (Ev.bind X2 (ev_pos rfl (ev_pos rfl (ev_pos rfl (Ev.bind (same_refl (cellsFrom (cancelT (sumT l) c (leastS (sumT l) c)) 0) (by unfold maxLen; omega)) (ev_pos rfl (ev_neg (by simp only; omega) ?_))))))))
    dsimp only
    rw [decide_eq_false (by have := hg.2.1; omega)]
    refine Ev.step (fun k => by simp only [laws_FnCircles.j2]; rfl) (ev_neg (by simp) ?_)
    exact circle_loop hv hp2 o_ o_ T H0 hg hl18
end Go.Proofs.Ytofcgkcpkngocaa.Pure
