/- For all lists of bytes the law of settling holds: nets are settled by at most one payment less than open people, the fewest payments are as many as open people less groups; no condition. -/
import Derived.Test.YtcghnnhhgngddaaDoorMSettledx0
import Derived.Test.YtcghnnhhgngddaaDoorMSettledx11
import Derived.Test.YtcghnnhhgngddaaDoorMSettledx12
import Derived.Test.YtcghnnhhgngddaaDoorMSettledx14
import Derived.Test.YtcghnnhhgngddaaDoorVSettledEv
import Derived.Test.YtcghnnhhgngddaaDoorPuAllSettled
namespace Go.Proofs.YtcghnnhhgngddaaDoor.Pure
open Go.RowKit Go.Proofs.YtcghnnhhgngddaaDoor.MSettled Go.Proofs.YtcghnnhhgngddaaDoorW.PrintWords Go.Proofs.YtcghnnhhgngddaaDoorW.PrintLast Go.Proofs.YtcghnnhhgngddaaDoorW.PrintMore Go.Proofs.YtcghnnhhgngddaaDoor.Evs Go.Proofs.YtcghnnhhgngddaaDoor.PuDebtSettled Go.Proofs.YtcghnnhhgngddaaDoor.PuSumNetsSettled Go.Proofs.YtcghnnhhgngddaaDoor.PuZeroSettled Go.Proofs.YtcghnnhhgngddaaDoor.PuSubSettled Go.Proofs.YtcghnnhhgngddaaDoor.PuOpnSettled Go.Proofs.YtcghnnhhgngddaaDoor.PuPaysSettled Go.Proofs.YtcghnnhhgngddaaDoor.PuSetBSettled Go.Proofs.YtcghnnhhgngddaaDoor.PuFewSettled Go.Proofs.YtcghnnhhgngddaaDoor.PuTabsSettled Go.Proofs.YtcghnnhhgngddaaDoor.PuPartSettled Go.Proofs.YtcghnnhhgngddaaDoor.PuMemsSettled Go.Proofs.YtcghnnhhgngddaaDoor.PuZSumSettled Go.Proofs.YtcghnnhhgngddaaDoor.PuFewRSettled Go.Proofs.YtcghnnhhgngddaaDoor.PuZeroRSettled Go.Proofs.YtcghnnhhgngddaaDoor.PuSetAllSettled Go.Proofs.YtcghnnhhgngddaaDoor.PuSettBSettled Go.Proofs.YtcghnnhhgngddaaDoor.PuPickBSettled Go.Proofs.YtcghnnhhgngddaaDoor.PuDrawNSettled
open Go.Proofs.YtcghnnhhgngddaaDoor.PuSettleSettled (g good good_of g_lt settleL settle_len l02Settle_ev settleF_ev nz nz_le)
open Go.Proofs.YtcghnnhhgngddaaDoor.PuDebtSSettled (SameS_ev)
set_option linter.unusedVariables false
set_option linter.unusedSimpArgs false

theorem nets_of {x : List Int} (h : good x) : nets0 x = true := by
  obtain ⟨h1, h2, h3, h4⟩ := h
  simp only [nets0, Bool.and_eq_true, decide_eq_true_eq, List.all_eq_true, beq_iff_eq]
  exact ⟨⟨h1, h2⟩, fun v hv => decide_eq_true (h3 v hv), h4⟩
theorem count_ev (x : List Int) (d m : List D) (most c1 c2 : Int) (s1 s2 : Bool) (R : Bool) (hx : x.length ≤ 16)
    (hend : Ev (fun k => laws_FnSettled.l0 k x d m most s1 c1 s2 c2 ((opn x).length : Int) (x.length : Int)) R) : Ev (fun k => laws_FnSettled.l0 k x d m most s1 c1 s2 c2 0 0) R := by
  have key : ∀ (e i : Nat), x.length - i = e → i ≤ x.length → Ev (fun k => laws_FnSettled.l0 k x d m most s1 c1 s2 c2 ((oi x i).length : Int) (i : Int)) R := by
    intro e
    induction e with
    | zero =>
      intro i hd hi
      have : i = x.length := by omega
      subst this
      exact hend
    | succ e ih =>
      intro i hd hi
      have h2 := ih (i + 1) (by omega) (by omega)
      have hl := oi_len x i
      rw [oi_step] at h2
      refine Ev.step (fun k => by simp only [laws_FnSettled.l0]; rfl) (ev_pos (by omega) (ev_pos (by omega) ?_))
      rw [wrap_up (n := 16) (by omega) (by omega), show rd x (i : Int) = g x i from rfl]
      by_cases h : g x i = 0
      · rw [if_pos h] at h2
        exact ev_pos h h2
      · rw [if_neg h, List.length_append] at h2
        rw [wrap_id (by omega) (by omega)]
        refine ev_neg h ?_
        have e2 : (((oi x i).length + [i].length : Nat) : Int) = ((oi x i).length : Int) + 1 := by simp
        rw [e2] at h2
        exact h2
  exact key _ 0 rfl (by omega)
theorem FnSettled (c : List Int) (hc : c.length ≤ maxLen) (hbc : ∀ z ∈ c, (Lit.int .u8 z).wf = true) : ∃ k, laws_FnSettled.f k c = some true := by
  refine Ev.rounds (r := true) ?_
  unfold laws_FnSettled.f laws_a2Long.f
  by_cases h3 : (c.length : Int) > 3000
  · rw [if_pos h3]
    exact ev_bind0 rfl (ev_pos rfl (Ev.now _))
  rw [if_neg h3, decide_eq_false h3]
  refine ev_bind0 rfl (ev_neg (by decide) ?_)
  have hB : byteL c := ⟨by omega, fun z hz => by
    have := hbc z hz
    simp [Lit.wf, IntKind.min, IntKind.max, IntKind.signed, IntKind.bits] at this
    omega⟩
  obtain ⟨x, ex, hg, h9⟩ := nets_ev hB
  have h0 := nets_of hg
  have hlm : x.length ≤ maxLen := by unfold maxLen; omega
  have hol := opn_len x
  have h10 : (opn x).length ≤ 10 := by omega
  have bI : Ev (fun k => impl_SettleByNets.f k x) (settleL x, 0) := by
    unfold impl_SettleByNets.f
    exact Ev.bind (ZeroI_ev x hlm) (ev_pos h0 (Ev.bind (settleF_ev x hg) (Ev.now _)))
  have bS : Ev (fun k => spec_SettleByNets.f k x) (settleL x, 0) := by
    unfold spec_SettleByNets.f
    have := l02Settle_ev x [] hg (by simp)
    rw [List.nil_append] at this
    exact Ev.bind (ZeroS_ev x hlm) (ev_pos h0 (Ev.bind this (Ev.now _)))
  have fI := fewI_ev x hlm
  have fS := fewS_ev x hlm
  rw [show fewR x = (fewL x, 0) by unfold fewR; rw [if_pos h0, if_pos h10]] at fI fS
  have zI := zeroI_ev x hlm
  have zS := zeroS_ev x hlm
  rw [show zeroR x = (G (vals x) (2 ^ (opn x).length - 1), 0) by unfold zeroR; rw [if_pos h0, if_pos h10]] at zI zS
  have sl := settle_len hg
  have fl := fewL_len hg h10
  have s1 := SameS_ev (settleL x) (settleL x) (by unfold maxLen; omega)
  have s2 := SameS_ev (fewL x) (fewL x) (by unfold maxLen; omega)
  rw [dec_true rfl] at s1 s2
  have z0 := all0 hg
  obtain ⟨t2, few, in2⟩ := few_spec x hg _ _ (allS_lt x) (allS_lt x) z0
  have in1 := settle_in (nz x + 1) x (by omega) hg
  have t1 := settle_tot (nz x + 1) x (by omega) hg
  have ok1 : ∀ d ∈ settleL x, okP x.length d := fun d hd => by
    obtain ⟨a, b, c1, d1, e, f, f2, _, _⟩ := in1 d hd
    exact ⟨a, b, c1, d1, e, f, f2⟩
  have ok2 : ∀ d ∈ fewL x, okP x.length d := fun d hd => by
    obtain ⟨a, b, c1, d1, e, f, f2, _, _⟩ := in2 d hd
    exact ⟨a, b, c1, d1, e, f, f2⟩
  have tt2 : ∀ k, g x k + tot ((fewL x).map toP) k = 0 := by
    intro k
    have := t2 k
    by_cases hk : k ∈ opn x
    · obtain ⟨j, hj, rfl⟩ := opn_at x hk
      have hb : (allS x).testBit j = true := by
        unfold allS
        rw [Nat.testBit_two_pow_sub_one]
        exact decide_eq_true hj
      rw [if_pos ((ppl_at x (allS x) j hj).2 hb)] at this
      exact this
    · have hz : g x k = 0 := by
        by_cases hkl : k < x.length
        · exact Classical.byContradiction fun z => hk ((opn_mem x k).2 ⟨hkl, z⟩)
        · simp [g, List.getD_eq_getElem?_getD, List.getElem?_eq_none (show x.length ≤ k by omega)]
      rw [if_neg (fun z => hk ((opn_mem x k).2 (ppl_opn x _ z)))] at this
      rw [hz]; exact this
  have a1 := setI_ev x (settleL x) hlm (by unfold maxLen; omega)
  have a2 := setI_ev x (fewL x) hlm (by unfold maxLen; omega)
  have r1 : setR x (settleL x) = (true, 0) := by
    unfold setR
    rw [if_pos ⟨h0, valid_of _ _ hg.1 hg.2.1 (by omega) ok1⟩, settles _ ok1 (by omega) t1, dec_true rfl]
  have r2 : setR x (fewL x) = (true, 0) := by
    unfold setR
    rw [if_pos ⟨h0, valid_of _ _ hg.1 hg.2.1 (by omega) ok2⟩, settles _ ok2 (by omega) tt2, dec_true rfl]
  rw [r1] at a1
  rw [r2] at a2
  have hsum : ((opn x).map (g x)).sum = 0 := by
    have e := vals_sum x
    rw [hg.2.2.2] at e
    exact e
  have inS : ∀ (l : List D), (∀ d ∈ l, 0 ≤ d.f0 ∧ d.f0 < x.length ∧ 0 ≤ d.f1 ∧ d.f1 < x.length ∧ d.f0 ≠ d.f1 ∧ 1 ≤ d.f2 ∧ d.f2 ≤ 100000000 ∧ g x d.f0.toNat ≠ 0 ∧ g x d.f1.toNat ≠ 0) → ∀ p ∈ l.map toP, p.1 ∈ opn x ∧ p.2.1 ∈ opn x := by
    intro l hl p hp
    obtain ⟨d, hd, rfl⟩ := List.mem_map.1 hp
    obtain ⟨a, b, c1, d1, e, f, f2, q1, q2⟩ := hl d hd
    exact ⟨(opn_mem x _).2 ⟨by show d.f0.toNat < x.length; omega, q1⟩, (opn_mem x _).2 ⟨by show d.f1.toNat < x.length; omega, q2⟩⟩
  have least1 := least (opn x) (opn_nodup x) (g x) ((settleL x).map toP) (fun k _ => t1 k) (inS _ in1) hsum
  have least2 := least (opn x) (opn_nodup x) (g x) ((fewL x).map toP) (fun k _ => tt2 k) (inS _ in2) hsum
  rw [List.length_map] at least1 least2
  have eG : G ((opn x).map (g x)) (2 ^ (opn x).length - 1) = G (vals x) (2 ^ (opn x).length - 1) := rfl
  rw [eG] at least1 least2
  have few' : ((fewL x).length : Int) + G (vals x) (2 ^ (opn x).length - 1) ≤ ((mem (opn x).length (allS x)).length : Int) := few
  have ml := mem_len (opn x).length (allS x)
  have sf := settle_few (nz x + 1) x (by omega) hg
  rw [nz_opn] at sf
  have gb := G_bd (vals x) (2 ^ (opn x).length) (2 ^ (opn x).length - 1) (by have := Nat.two_pow_pos (opn x).length; omega)
  generalize G (vals x) (2 ^ (opn x).length - 1) = mo at *
  refine Ev.bind ex (Ev.bind bI (Ev.bind bS (Ev.bind fI (Ev.bind fS (Ev.bind zI (Ev.bind zS ?_))))))
  refine ev_pos rfl (ev_pos rfl (Ev.bind s1 (ev_pos rfl (ev_pos rfl (ev_pos rfl (Ev.bind s2 (ev_pos rfl (ev_pos rfl (ev_pos rfl ?_)))))))))
  rw [bne_self_eq_false]
  refine Ev.step (fun k => by simp only [laws_FnSettled.j0]; rfl) ?_
  refine ev_neg (by decide) (Ev.bind a1 (Ev.bind a2 ?_))
  refine count_ev x _ _ _ _ _ _ _ _ hg.2.1 ?_
  refine Ev.step (fun k => by simp only [laws_FnSettled.l0]; rfl) ?_
  have key1 : (settleL x).length ≤ (opn x).length - 1 := by
    by_cases hz : (opn x).length = 0
    · rw [sf.1 hz]; simp
    · have := sf.2 (by omega); omega
  refine ev_neg (by omega) (ev_pos trivial (ev_pos trivial (ev_pos trivial (ev_pos trivial (ev_pos (by omega) ?_)))))
  have hmx : ∀ a : Int, mx a 0 = if a < 0 then 0 else a := fun a => rfl
  rw [wrap_id (x := ((opn x).length : Int) - 1) (by omega) (by omega), hmx]
  refine ev_pos (by split <;> omega) (ev_eq (Ev.now _) ?_)
  rw [beq_iff_eq, wrap_id (by omega) (by omega)]
  omega
end Go.Proofs.YtcghnnhhgngddaaDoor.Pure
