/- Circles that are cleared: all nets stay, and what is cancelled is told. -/
import Derived.Test.YtofcgkcpkngocaaMCirclesx0
import Derived.Test.YtofcgkcpkngocaaMCirclesx13
import Derived.Test.YtofcgkcpkngocaaVCirclesEv
import Derived.Test.YtofcgkcpkngocaaVCirclesArr
import Derived.Test.YtofcgkcpkngocaaPuDebtCircles
import Derived.Test.YtofcgkcpkngocaaPuTableCircles
import Derived.Test.YtofcgkcpkngocaaPuTableLCircles
import Derived.Test.YtofcgkcpkngocaaPuSumNetsCircles
import Derived.Test.YtofcgkcpkngocaaPuCircCircles
import Derived.Test.YtofcgkcpkngocaaPuCancelCircles
import Derived.Test.YtofcgkcpkngocaaPuClearCircles
import Derived.Test.YtofcgkcpkngocaaPuTab2Circles
namespace Go.Proofs.Ytofcgkcpkngocaa.PuClear2Circles
open Go.RowKit MCircles Go.Proofs.YtofcgkcpkngocaaW.PrintWords Go.Proofs.YtofcgkcpkngocaaW.PrintLast Go.Proofs.YtofcgkcpkngocaaW.PrintMore Evs PuDebtCircles PuTableCircles PuTableLCircles PuCircCircles PuCancelCircles PuClearCircles PuTab2Circles
open PuSumNetsCircles (sumD)
set_option linter.unusedVariables false
set_option linter.unusedSimpArgs false
theorem bd_of {p : Nat} {B : Int} {t : Tb} (h : tabOk p B t) : bdT t B := fun a b ha hb => ⟨(h a b ha hb).1, (h a b ha hb).2.1⟩
theorem cancel_ok {p : Nat} {B : Int} {t : Tb} {c : List Int} (h : tabOk p B t) (hB : B ≤ 1000000000000) (hg : goodC t c) : tabOk p B (cancelT t c (leastS t c)) := fun a b ha hb => by
  have h1 := cancel_le hg (bd_of h) hB a b ha hb; have h2 := h a b ha hb; exact ⟨h1.1, by omega, fun z => h2.2.2 o_⟩
theorem pre_net {t : Tb} {c : List Int} {M m : Int} (hg : goodC t c) (hb : bdT t M) (hM : M ≤ 1000000000000) (h0 : 0 ≤ m) (hm : ∀ i, i < c.length → m ≤ cellC t c i) (j : Nat) (hj : j < c.length) (q : Nat) (hq : q < 16) :
    netT (preT c m t (j + 1)) q = netT (preT c m t j) q + (if q = eB c j then -m else 0) - (if q = eA c j then -m else 0) := by
  have hc : in16 c := hg.1.2; have el := eA_lt hc hj; obtain ⟨h1, h2, h3⟩ := pre_tg hg hb hM h0 hm j (Nat.le_of_lt hj); (have hne : ∀ i, i < j → ¬ (eA c j = eA c i ∧ eB c j = eB c i) := fun i hi z => eA_ne hc hg.2.2.1 hj o_ o_ z.1); have hold := h1 (eA c j) (eB c j) el.1 el.2 hne; have hcell : cellC (preT c m t j) c j = tg (preT c m t j) (eA c j) (eB c j) := rfl; have hmj := hm j hj; have hbj := hb (eA c j) (eB c j) el.1 el.2; have ec := cell_e t c j; rw [preT_succ, step_e hc m _ j hj, hcell]; refine netT_upd (t := preT c m t j) el.1 el.2 (fun a b ha hb2 => ?_) q hq; rw [tg_set _ _ _ a b _ el.2 el.1 hb2 ha, wrap_id o_ o_]; by_cases e : a = eA c j ∧ b = eB c j
  · rw [if_pos e, if_pos e, e.1, e.2]; omega
  · rw [if_neg e, if_neg e]; omega
theorem eB_next {c : List Int} {j : Nat} (h : j + 1 < c.length) : eB c j = eA c (j + 1) := by
  unfold eB eA; rw [Nat.mod_eq_of_lt h]
theorem eB_last {c : List Int} (h : 0 < c.length) : eB c (c.length - 1) = eA c 0 := by
  unfold eB eA; rw [show c.length - 1 + 1 = c.length by omega, Nat.mod_self]
theorem net_part {t : Tb} {c : List Int} {M m : Int} (hg : goodC t c) (hb : bdT t M) (hM : M ≤ 1000000000000) (h0 : 0 ≤ m) (hm : ∀ i, i < c.length → m ≤ cellC t c i) (q : Nat) (hq : q < 16) : ∀ j, j < c.length →
    netT (preT c m t j) q = netT t q + (if q = eA c 0 then m else 0) - (if q = eA c j then m else 0)
  | 0, _ => by
    have : preT c m t 0 = t := rfl
    rw [this]; omega
  | j + 1, hj => by
    have ih := net_part hg hb hM h0 hm q hq j o_
    rw [pre_net hg hb hM h0 hm j o_ q hq, ih, eB_next hj]
    by_cases d1 : q = eA c j
    · by_cases d2 : q = eA c (j + 1)
      · rw [if_pos d1, if_pos d2, if_pos d1, if_pos d2]; omega
      · rw [if_pos d1, if_neg d2, if_pos d1, if_neg d2]; omega
    · by_cases d2 : q = eA c (j + 1)
      · rw [if_neg d1, if_pos d2, if_neg d1, if_pos d2]; omega
      · rw [if_neg d1, if_neg d2, if_neg d1, if_neg d2]; omega
theorem cancel_net {p : Nat} {B : Int} {t : Tb} {c : List Int} (h : tabOk p B t) (hB : B ≤ 1000000000000) (hg : goodC t c) (q : Nat) (hq : q < 16) : netT (cancelT t c (leastS t c)) q = netT t q := by
  have hp := good_pos hg; have hs := leastS_spec t c hp; have h1 := least_pos hg; have h2 := net_part hg (bd_of h) hB (show 0 ≤ leastS t c by omega) hs.1 q hq (c.length - 1) o_; have h3 := pre_net hg (bd_of h) hB (show 0 ≤ leastS t c by omega) hs.1 (c.length - 1) o_ q hq; rw [show c.length - 1 + 1 = c.length by omega, eB_last hp, h2] at h3; rw [cancelT_pre, h3]; by_cases d1 : q = eA c 0
  · by_cases d2 : q = eA c (c.length - 1)
    · rw [if_pos d1, if_pos d2, if_pos d1, if_pos d2]; omega
    · rw [if_pos d1, if_neg d2, if_pos d1, if_neg d2]; omega
  · by_cases d2 : q = eA c (c.length - 1)
    · rw [if_neg d1, if_pos d2, if_neg d1, if_pos d2]; omega
    · rw [if_neg d1, if_neg d2, if_neg d1, if_neg d2]; omega
theorem tot_add {p : Nat} {B m : Int} {t : Tb} (h : tabOk p B t) (hp : p ≤ 16) (hB : B + m ≤ 1000000000000) (hB0 : 0 ≤ B) (d : D) (hd : smallD p m d) : tot (addT t d) = tot t + d.f2 := by
  obtain ⟨h0, h1, h2, h3, h4, h5, h6⟩ := hd; have h7 := h d.f0.toNat d.f1.toNat o_ o_
  have e : addT t d = Arr.vst2 16 t ((d.f0.toNat : Nat) : Int) ((d.f1.toNat : Nat) : Int) (wrap64 (tg t d.f0.toNat d.f1.toNat + d.f2)) := by
    unfold addT; rw [vrd2_n, show ((d.f0.toNat : Nat) : Int) = d.f0 by omega, show ((d.f1.toNat : Nat) : Int) = d.f1 by omega]
  rw [e, tot_set t _ _ o_ o_, wrap_id o_ o_]; omega
theorem tot_fold {p : Nat} {m : Int} (hp : p ≤ 16) (hm : 0 ≤ m) : ∀ (l : List D) (t : Tb) (B : Int), tabOk p B t → 0 ≤ B → B + l.length * m ≤ 100000000000 → (∀ d ∈ l, smallD p m d) → tot (l.foldl addT t) = tot t + sumD l
  | [], t, B, _, _, _, _ => by simp [sumD]
  | d :: l, t, B, h, hB0, hB, hd => by
    have hd0 := hd d (List.mem_cons_self ..)
    have e3 : ((l.length + 1 : Nat) : Int) * m = (l.length : Int) * m + m := by
      rw [show ((l.length + 1 : Nat) : Int) = (l.length : Int) + 1 by omega, Int.add_mul, Int.one_mul]
    rw [List.length_cons, e3] at hB
    have hl0 : 0 ≤ (l.length : Int) * m := Int.mul_nonneg o_ hm
    rw [List.foldl_cons, tot_fold hp hm l (addT t d) (B + m) (add_ok h hp o_ hB0 d hd0) o_ o_ (fun z hz => hd z (List.mem_cons_of_mem _ hz)), tot_add h hp o_ hB0 d hd0]
    have : sumD (d :: l) = d.f2 + sumD l := rfl
    omega
theorem tot_zero : tot zeroT = 0 := by
  unfold tot zeroT; rw [Vector.toList_replicate]
  have : ∀ n, (List.replicate n (0 : Int)).sum = 0 := by
    intro n
    induction n with
    | zero => rfl
    | succ n ih => rw [List.replicate_succ, List.sum_cons, ih]; rfl
  exact this 256
theorem tot_sum {p : Nat} {m : Int} {l : List D} (hp : p ≤ 16) (hm : 0 ≤ m) (hl : l.length * m ≤ 100000000000) (hd : ∀ d ∈ l, smallD p m d) : sumD l = tot (sumT l) := by
  have := tot_fold hp hm l zeroT 0 (zero_ok p) o_ o_ hd; unfold sumT; rw [this, tot_zero]; omega
theorem tot_cells {p : Nat} {B : Int} {t : Tb} (h : tabOk p B t) (hp : p ≤ 6) (hB0 : 0 ≤ B) (hB : B ≤ 100000000) : sumD (cellsFrom t 0) = tot t := by
  have hf := few_cells h hp; have hl : ((cellsFrom t 0).length : Int) * B ≤ 36 * B := Int.mul_le_mul_of_nonneg_right o_ hB0; rw [tot_sum o_ hB0 o_ (fun d hd => cells_mem h hd), sum_cells h o_]
theorem clear_loop2 {p : Nat} {B : Int} (hp : p ≤ 6) (hB0 : 0 ≤ B) (hB : B ≤ 1000000) (N : Nat) : ∀ (t : Tb) (s : Int), tot t < N → tabOk p B t → 0 ≤ s → s + tot t ≤ 1000000000000 → ∃ (u : Tb),
    Ev (fun k => spec_ClearCircles.l0 k s t) (cellsFrom u 0, s + (tot t - tot u), 0) ∧ Ev (fun k => impl_ClearCircles.l0 k s (listO (circleM t)) t) (cellsFrom u 0, s + (tot t - tot u), 0) ∧
    tabOk p B u ∧ circleM u = none ∧ (∀ q, q < 16 → netT u q = netT t q) ∧ (circleM t = none → u = t) := by
  induction N with
  | zero => intro t s h hb; have := tot_nn (bd_of hb); omega
  | succ N ih =>
    intro t s h hb hs0 hs; have hlt0 := list_small hb hp o_; have hbt := bd_of hb
    cases hc : circleM t with
    | none =>
      (have ez : s + (tot t - tot t) = s := by omega); refine ⟨t, ?_, ?_, hb, hc, fun q _ => rfl, fun _ => rfl⟩
      · rw [ez]; refine Ev.step (fun k => by rw [spec_ClearCircles.l0]) (Ev.bind (circleS_ev t) ?_); rw [hc]; refine ev_neg (by simp) (Ev.bind (listS_ev t) ?_); rw [hlt0]; exact ev_pos rfl (Ev.now _)
      · rw [ez]; refine Ev.step (fun k => by rw [impl_ClearCircles.l0]) ?_; refine ev_pos (c := (((listO none).length : Nat) : Int) = 0) rfl ?_; refine Ev.bind (listI_ev t) ?_; rw [hlt0]; exact Ev.now _
    | some c =>
      have hg := circleM_good hbt hc; have hp1 := good_pos hg; have hl := circleM_len hc; (have hlm : c.length ≤ maxLen := by unfold maxLen; omega); have h1 := least_pos hg; have ht2 := cancel_tot hg hbt o_; have hok := cancel_ok hb o_ hg; have hnn := tot_nn (bd_of hok); have e1 : (c.length : Int) * 1 ≤ c.length * leastS t c := Int.mul_le_mul_of_nonneg_left h1 o_; have ecm : leastS t c * (c.length : Int) = (c.length : Int) * leastS t c := Int.mul_comm _ _
      have ew : wrap64 (s + wrap64 (leastS t c * (c.length : Int))) = s + (tot t - tot (cancelT t c (leastS t c))) := by
        rw [ecm, wrap_id (x := (c.length : Int) * leastS t c) o_ o_, wrap_id o_ o_]; omega
      obtain ⟨u, x1, x2, x3, x4, x5, x6⟩ := ih (cancelT t c (leastS t c)) (s + (tot t - tot (cancelT t c (leastS t c)))) o_ hok o_ o_; rw [show s + (tot t - tot (cancelT t c (leastS t c))) + (tot (cancelT t c (leastS t c)) - tot u) = s + (tot t - tot u) by omega] at x1 x2; refine ⟨u, ?_, ?_, x3, x4, fun q hq => by rw [x5 q hq, cancel_net hb o_ hg q hq], fun z => by cases z⟩
      · refine Ev.step (fun k => by rw [spec_ClearCircles.l0]) (Ev.bind (circleS_ev t) ?_); rw [hc]; refine ev_pos rfl (Ev.bind (leastS_ev t c hg.1.2 hlm hp1) (Ev.bind (cancelS_ev t c _ hg.1.2 hlm) ?_)); have el : listO (some c) = c := rfl; simp only [el]; rw [ew]; exact x1
      · have ec : listO (some c) = c := rfl; rw [ec]; refine Ev.step (fun k => by rw [impl_ClearCircles.l0]) ?_; refine ev_neg (c := ((c.length : Nat) : Int) = 0) o_ ?_; refine Ev.bind (cancelI_ev t c hg.1.2 hlm) ?_; rw [least_eq t c hp1 (posC_of hbt hg.1.2)]; refine Ev.bind (circleI_ev _) ?_; dsimp only; rw [ew]; exact x2
theorem clear_good {p : Int} {l : List D} {B : Int} (hv : valid p l = true) (hp : p ≤ 6) (hB0 : 0 ≤ B) (hB : B ≤ 1000000) (h : tabOk p.toNat B (sumT l)) (hs : tot (sumT l) ≤ 1000000000000) : ∃ (u : Tb),
    Ev (fun k => spec_ClearCircles.f k p l) (cellsFrom u 0, tot (sumT l) - tot u, 0) ∧ Ev (fun k => impl_ClearCircles.f k p l) (cellsFrom u 0, tot (sumT l) - tot u, 0) ∧
    tabOk p.toNat B u ∧ circleM u = none ∧ (∀ q, q < 16 → netT u q = netT (sumT l) q) ∧ (circleM (sumT l) = none → u = sumT l) := by
  obtain ⟨hp1, hp2, h60, hd⟩ := valid_bd hv; (have hl : l.length ≤ maxLen := by unfold maxLen; omega); have hlt0 := list_small h o_ o_; have hnn := tot_nn (bd_of h); obtain ⟨u, x1, x2, x3, x4, x5, x6⟩ := clear_loop2 o_ hB0 hB ((tot (sumT l)).toNat + 1) (sumT l) 0 o_ h o_ o_; rw [Int.zero_add] at x1 x2; have e : joinR p l = listR (sumT l) := if_pos hv; refine ⟨u, ?_, ?_, x3, x4, x5, x6⟩
  · unfold spec_ClearCircles.f; refine Ev.bind (l02Ok_ev p l hl) (ev_pos hv (Ev.bind (sumsS_ev p l hv) (Ev.bind (listS_ev _) ?_))); rw [hlt0]; exact ev_pos rfl x1
  · unfold impl_ClearCircles.f; refine Ev.bind (JoinI_ev p l hl) ?_; rw [e, hlt0]; exact ev_pos rfl (Ev.bind (sumsI_ev p l hv) (Ev.bind (circleI_ev _) x2))
end Go.Proofs.Ytofcgkcpkngocaa.PuClear2Circles
