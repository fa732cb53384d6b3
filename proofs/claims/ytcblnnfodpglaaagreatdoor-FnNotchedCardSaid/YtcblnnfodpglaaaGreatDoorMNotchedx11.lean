-- by a program of this session, for this claim
import Derived.Test.YtcblnnfodpglaaaGreatDoorIns
import Derived.Test.YtcblnnfodpglaaaGreatDoorMNotchedx0
import Derived.Test.YtcblnnfodpglaaaGreatDoorMNotchedx7
namespace Go.Proofs.YtcblnnfodpglaaaGreatDoor.MNotched
open Go.RowKit Go.Proofs.YtcblnnfodpglaaaGreatDoorW.PrintWords Go.Proofs.YtcblnnfodpglaaaGreatDoorW.PrintLast Go.Proofs.YtcblnnfodpglaaaGreatDoorW.PrintMore
attribute [local go_sem] max2_int min2_int max_two min_two max_three min_three max_four min_four   -- for this text's walks alone
set_option linter.unusedVariables false
set_option linter.unusedSimpArgs false

/-! ### impl_Notch_60: function 60 -/
def impl_Notch_60.f (l0 : List (S60)) (a1 : Int) (l2 : List (S60)) : Option ((List (S60))) := if 0 ≤ a1 ∧ a1 ≤ (l0.length : Int) ∧ l2.length = 1 ∧ l0.length ≤ 1000000 then (some (l0.take a1.toNat ++ l2 ++ l0.drop a1.toNat)) else (none)
def impl_Notch_60.enc (x : S60) : List Value := [.int .i8 x.f0, .int .i16 x.f1]
theorem impl_Notch_60.enc_len (x : S60) : (impl_Notch_60.enc x).length = 2 := rfl
theorem impl_Notch_60.enc_one (l : List S60) : ∀ v ∈ l.flatMap impl_Notch_60.enc, v.oneCell' = true := by
  intro v hv; obtain ⟨x, _, hx⟩ := List.mem_flatMap.1 hv; simp only [impl_Notch_60.enc, List.mem_cons, List.not_mem_nil, or_false] at hx; rcases hx with rfl | rfl <;> rfl
theorem impl_Notch_60.row {w : World} {base : Nat} {ok : Nat → Prop} {A : Option Addr} {n c : Nat} {l : List S60} (h : Kd.R k60 60 w base ok (.slice A n c) l) (hp : 0 < l.length) :
    ∃ g cur, A = some ⟨g, 0, none⟩ ∧ ok g ∧ base ≤ g ∧ g < w.heap.size ∧ w.heap[g]? = some (.cells cur 60 (0, 0)) ∧ n = l.length ∧ n ≤ c ∧ c ≤ maxLen ∧ cur.size = c * 2 ∧ cur.toList.take (l.length * 2) = l.flatMap impl_Notch_60.enc := by
  obtain ⟨h0, inner, ⟨hl, ho⟩, hr⟩ := h; rcases ho with ⟨e, h1⟩ | ⟨g, cap, cur, e, hb, hh, h1, h2, h3, h4⟩
  · omega
  · injection e with e1 e2 e3; subst e1; subst e3; have hi := Ins.reps_cells (enc := impl_Notch_60.enc) (fun p c hc => k60_openM hc) l inner hr; refine ⟨g, cur, rfl, h0 g rfl, hb, ?_, hh, e2, by omega, h2, h3, ?_⟩
    · rcases Nat.lt_or_ge g w.heap.size with h | h
      · exact h
      · rw [Array.getElem?_eq_none h] at hh; cases hh
    · rw [← hi]; exact h4
theorem impl_Notch_60.mk {w : World} {base : Nat} {ok : Nat → Prop} {g n c : Nat} {cur : Array Value} {l : List S60} (h0 : ok g) (hb : base ≤ g) (hh : w.heap[g]? = some (.cells cur 60 (0, 0))) (hn : n = l.length) (h1 : n ≤ c) (h2 : c ≤ maxLen) (h3 : cur.size = c * 2) (h4 : cur.toList.take (n * 2) = l.flatMap impl_Notch_60.enc) :
    Kd.R k60 60 w base ok (.slice (some ⟨g, 0, none⟩) n c) l := by
  subst hn; refine ⟨fun k hk => ?_, l.flatMap impl_Notch_60.enc, ⟨Ins.flat_len impl_Notch_60.enc_len l, .inr ⟨g, c, cur, rfl, hb, hh, h1, h2, h3, h4⟩⟩, Ins.cells_reps impl_Notch_60.enc_len (fun p => k60_mkM _ _ _ p) l⟩; (have : g = k := by simpa [Value.ownBlock] using hk); rw [← this]; exact h0
set_option maxHeartbeats 8000000 in
set_option maxRecDepth 100000 in
theorem impl_Notch_60.calls (P0_ : Nat → Prop) (u9000_ : Value) (l0 : List (S60)) (a1 : Int) (A2 : Option Addr) (c2 : Nat) (l2 : List (S60)) (r : List (S60)) (w0 w : World) (hB : Below w0.heap.size w0 w) (ho0 : Kd.R k60 60 w w0.heap.size P0_ u9000_ l0) (hr2 : ∃ ok2 base2, Kd.R k60 60 w base2 ok2 (.slice A2 l2.length c2) l2 ∧ ∀ k_, ok2 k_ → ¬ P0_ k_) (hc2 : l2.length ≤ c2) (h : impl_Notch_60.f l0 a1 l2 = some r) :
    Calls Tryz.prog 60 #[u9000_, .int .i64 a1, .slice A2 l2.length c2] w fun e w' => ∃ v0_ : Value, e = .returned (v0_) ∧ Kd.R k60 60 w' w0.heap.size (fun k_ => (P0_ k_ ∨ w.heap.size ≤ k_)) v0_ r ∧ Below w0.heap.size w0 w' ∧ Kept w w' (fun k_ => P0_ k_) := by
  have hc : 0 ≤ a1 ∧ a1 ≤ (l0.length : Int) ∧ l2.length = 1 ∧ l0.length ≤ 1000000 := by
    unfold impl_Notch_60.f at h
    split at h
    · assumption
    · cases h
  have hr : r = l0.take a1.toNat ++ l2 ++ l0.drop a1.toNat := by
    unfold impl_Notch_60.f at h
    rw [if_pos hc] at h
    exact (Option.some.inj h).symm
  clear h
  obtain ⟨i0, i1, h2, hbig⟩ := hc
  obtain ⟨i, rfl⟩ : ∃ i : Nat, a1 = (i : Int) := ⟨a1.toNat, by omega⟩
  rw [Int.toNat_natCast] at hr
  obtain ⟨ok2, base2, hv, hdis⟩ := hr2
  obtain ⟨gv, cv, eA, okv, _, gvlt, hgv, _, _, _, cvs, cvt⟩ := impl_Notch_60.row hv (by omega)
  have hz1 : ¬ ((l2.length : Int) = 0) := by omega
  have mixed : Tryz.prog.follows Departure.mixedOrders = true := by kernel_rfl
  by_cases hend : i = l0.length
  · -- at the end: append
    subst hend
    rw [List.take_length, List.drop_length, List.append_nil] at hr
    have HO0 := Aside0.mk (show Kd.R k60 60 w w0.heap.size (fun k_ => (P0_ k_ ∨ w.heap.size ≤ k_)) u9000_ l0 from Kd.R_mono ho0 (fun k_ hk => (.inl hk)))
    have HK := Aside0.mk (Kept.refl w (fun k_ => P0_ k_))
    have HB := Aside0.mk hB
    obtain ⟨A0, c0, e0⟩ := Kd.R_slice ho0
    subst e0
    have hle := (Kd.R_reads' ho0).2.1
    have q1 : (0 : Int) ≤ (l0.length : Int) := by omega
    go_enter Tryz.func60, Tryz.ntmps60
    go_wp2_with (first | ((with_reducible refine gate_builtin (b := .append) (xs := #[.tmp 23, .tmp 24]) rfl ?_); at_builtin; refine Kd.R_append_rows k60 (w0 := w0) w0.heap.size rfl (.tmp 23) (.tmp 24) 24 60 (.agg #[(.int .i8 0), (.int .i16 0)]) 4 rfl Tryz.underlying24 info60 rfl (by decide) (by omega) (.slice A0 l0.length c0) l0 l2 _ _ _ (fun k_ => (P0_ k_ ∨ w.heap.size ≤ k_)) (fun _ => False) rfl rfl ?aO ?aR (fun _ _ h => h) (fun _ h => h.elim) ?aF ?aB ?aS ?aL ?_; (case aR => exact (Kd.R_reads' hv).2.2); (case aB => exact HB.out); (case aF => exact (fun k_ hk => .inr hk)); (case aO => exact HO0.out); (case aS => exact HB.out.size); (case aL => omega); intro v1 w5 ho hb hg hat))
    all_goals go_ret
    all_goals exact ⟨_, rfl, (by first | exact ho | (rw [hr]; exact ho)), hb, Kept.of_grown (S := (fun k_ => P0_ k_)) hg HK.out (fun k_ e_ => .inl (ho0.1 k_ e_))⟩
  · have hin : i < l0.length := by omega
    obtain ⟨A0, c0, e0⟩ := Kd.R_slice ho0
    subst e0
    obtain ⟨g, cur, e1, okg, hbg, glt, hg, _, hnc, hcm, hcs, hct⟩ := impl_Notch_60.row ho0 (by omega)
    subst e1
    subst eA
    have hne : gv ≠ g := fun e => hdis gv okv (e ▸ okg)
    have encl := Ins.flat_len impl_Notch_60.enc_len l0
    have encv := Ins.flat_len impl_Notch_60.enc_len l2
    have hz2 : ¬ ((i : Int) = (l0.length : Int)) := by omega
    have hsize : (Tryz.prog.info? 60).map (·.size) = some 2 := by kernel_rfl
    have hnl : l0.length ≤ 1000000 := hbig
    have hw1 : IntKind.i64.wrap ((i : Int) + 1) = (i : Int) + 1 := by rw [IntKind.wrap_i64]; omega
    have hw2 : IntKind.i64.wrap ((l0.length : Int) + 1) = (l0.length : Int) + 1 := by rw [IntKind.wrap_i64]; omega
    have ht1 : ((i : Int) + 1).toNat = i + 1 := by omega
    have ht2 : ((l0.length : Int) + 1).toNat = l0.length + 1 := by omega
    have hb0 : (0 : Int) ≤ (i : Int) := by omega
    have hb1 : (0 : Int) ≤ (i : Int) + 1 := by omega
    have hb2 : (0 : Int) ≤ (l0.length : Int) + 1 := by omega
    have hb3 : ¬ (c0 = i) := by omega
    have hb4 : (i : Int) ≤ (l0.length : Int) := by omega
    have hb5 : (i : Int) ≤ (l0.length : Int) + 1 := by omega
    have hb6 : (i : Int) + 1 ≤ (l0.length : Int) + 1 := by omega
    have hcell : ∀ k, k < l0.length * 2 → w.cell? ⟨g, k, none⟩ = (l0.flatMap impl_Notch_60.enc)[k]? := by
      intro k hk
      rw [Ins.cell_in hg, ← hct, List.getElem?_take, if_pos hk]
      simp
    by_cases hroom : l0.length + 1 ≤ c0
    · have hc1 : ¬ ((c0 : Int) < (l0.length : Int) + 1) := by omega
      have hc2' : ((l0.length : Int) + 1) ≤ (c0 : Int) := by omega
      have hc3 : ¬ (c0 = i + 1) := by omega
      have hdl : ((l0.flatMap impl_Notch_60.enc).drop (i * 2)).length = (l0.length - i) * 2 := by rw [List.length_drop, encl, Nat.sub_mul]
      have hvcell : ∀ k, k < l2.length * 2 → w.cell? ⟨gv, k, none⟩ = (l2.flatMap impl_Notch_60.enc)[k]? := by
        intro k hk
        rw [Ins.cell_in hgv, ← cvt, List.getElem?_take, if_pos hk]
        simp
      have hcp1 : ∀ ty dc sc, (Builtin.copy_ #[24, 24] ty #[.slice (some ⟨g, (i + 1) * 2, none⟩) (l0.length - i) dc, .slice (some ⟨g, i * 2, none⟩) ((l0.length + 1) - i) sc]).run Tryz.prog w.drew = .ok (goInt (l0.length - i : Nat)) (w.drew.setCells g ((i + 1) * 2) ((l0.flatMap impl_Notch_60.enc).drop (i * 2))) := fun ty dc sc => by
        refine Ins.copyN_run w.drew 24 24 ty 60 2 g ((i + 1) * 2) _ _ ⟨g, i * 2, none⟩ _ _ (l0.length - i) _ Tryz.underlying24 hsize (by show _ = min _ _; omega) hdl ?_ ?_ (fun j _ => blk_frozen (w := w.drew) hg _) ?_
        · intro j v hj
          rw [List.getElem?_drop] at hj
          have hlt : i * 2 + j < l0.length * 2 := by rw [← encl]; exact (List.getElem?_eq_some_iff.1 hj).1
          rw [Addr.add_lit]
          exact (hcell _ hlt).trans hj
        · intro j hj
          rw [hdl] at hj
          rw [Ins.cell_in (w := w.drew) hg, Array.getElem?_eq_getElem (by omega)]
          rfl
        · intro v hv'
          exact impl_Notch_60.enc_one l0 v (List.mem_of_mem_drop hv')
      obtain ⟨cur1, hg1, s1, l1⟩ := Ins.row_set (w := w.drew) hg ((i + 1) * 2) ((l0.flatMap impl_Notch_60.enc).drop (i * 2)) (by rw [hdl]; omega)
      obtain ⟨W1, hW1⟩ : ∃ W1, W1 = w.drew.setCells g ((i + 1) * 2) ((l0.flatMap impl_Notch_60.enc).drop (i * 2)) := ⟨_, rfl⟩
      rw [← hW1] at hcp1 hg1
      have hcp2 : ∀ (W : World), (∀ x, W.cell? x = W1.cell? x) → (∀ x, W.frozen? x = W1.frozen? x) → ∀ ty dc, (Builtin.copy_ #[24, 24] ty #[.slice (some ⟨g, i * 2, none⟩) ((l0.length + 1) - i) dc, .slice (some ⟨gv, 0, none⟩) 1 c2]).run Tryz.prog W = .ok (goInt (1 : Nat)) (W.setCells g (i * 2) (l2.flatMap impl_Notch_60.enc)) := fun W hWc hWf ty dc => by
        refine Ins.copyN_run W 24 24 ty 60 2 g (i * 2) _ _ ⟨gv, 0, none⟩ _ _ 1 _ Tryz.underlying24 hsize (by show _ = min _ _; omega) (by rw [encv, h2]) ?_ ?_ ?_ (impl_Notch_60.enc_one l2)
        · intro j v hj
          have hlt : j < l2.length * 2 := by rw [← encv]; exact (List.getElem?_eq_some_iff.1 hj).1
          rw [Addr.add_lit, hWc, hW1, World.cell?_setCells_out g _ _ _ _ (fun h _ => absurd h hne), Nat.zero_add]
          exact (hvcell _ hlt).trans hj
        · intro j hj
          rw [encv, h2] at hj
          rw [hWc, Ins.cell_in hg1, Array.getElem?_eq_getElem (by omega)]
          rfl
        · intro j _
          rw [hWf]
          exact blk_frozen hg1 _
      have hov : ∀ lb cb, (callFunc 74 #[.slice (some ⟨gv, 0, none⟩) 1 c2, .slice (some ⟨g, (i + 1) * 2, none⟩) lb cb]).run Tryz.prog w = .ok (.value (.bool false)) w := fun lb cb => by
        rw [run_callFunc_extern Tryz.func74 (e := Extern.SlicesOverlaps.overlaps #[24, 24] #[4]) (by kernel_rfl) (by kernel_rfl) (by kernel_rfl) (by kernel_rfl)]
        rw [Lib.run_overlaps_apart w 24 4 60 Tryz.underlying24 2 (fun w => Arr.run_sizeOf_of hsize w) ⟨gv, 0, none⟩ ⟨g, (i + 1) * 2, none⟩ 1 c2 lb cb hne 60 60 cv.size cur.size (by simp [World.shape?, hgv]) (by simp [World.shape?, hg]) (by omega) (blk_frozen hgv _) (blk_frozen hgv _)]
        rfl
      have hfin : cur.toList.length = c0 * 2 := by rw [← hcs]; simp
      obtain ⟨cur2, hg2, s2, l2'⟩ := Ins.row_set hg1 (i * 2) (l2.flatMap impl_Notch_60.enc) (by rw [encv, h2]; omega)
      have hrow : cur2.toList.take ((l0.length + 1) * 2) = r.flatMap impl_Notch_60.enc := by
        have h5 := Ins.shifted cur.toList (l0.flatMap impl_Notch_60.enc) (l2.flatMap impl_Notch_60.enc) (i * 2) (l0.length * 2) 2 hct encl (by omega) (by rw [encv, h2]) cur1.toList cur2.toList
          (by rw [l1, hdl, show (i + 1) * 2 = i * 2 + 2 by omega, show (l0.length - i) * 2 = l0.length * 2 - i * 2 by omega]) (by rw [l2', encv, h2]) (by omega)
        rw [show (l0.length + 1) * 2 = l0.length * 2 + 2 by omega, h5, hr, List.flatMap_append, List.flatMap_append, Ins.flat_take impl_Notch_60.enc_len l0 i (by omega), Ins.flat_drop impl_Notch_60.enc_len l0 i (by omega)]
      have hrl := Aside0.mk (show l0.length + 1 = r.length by rw [hr]; simp; omega)
      have hrow := Aside0.mk hrow
      have hsz2 := Aside0.mk (show cur2.size = c0 * 2 by omega)
      clear hfin s2 l2' s1 l1
      rw [hW1] at hg2
      have hg2 := Aside0.mk hg2
      go_enter Tryz.func60, Tryz.ntmps60
      go_wp2_with (simp only [hov])
      go_region_law_o (refine Ins.step_copyN rfl _ _ 24 24 rfl _ _ (by simp [Act.eval, Act.put]) (by simp [Act.eval, Act.put]) (hcp1 _ _ _) ?_)
      go_wp2_with (at_builtin; refine Ins.wpList_copyN _ rfl _ _ 24 24 rfl _ _ rfl rfl (hcp2 _ (fun _ => rfl) (fun _ => rfl) _ _) ?_)
      go_ret
      (try rw [hW1])
      exact ⟨_, rfl, impl_Notch_60.mk (.inl okg) hbg hg2.out hrl.out hroom hcm hsz2.out hrow.out, Arr.below_setCells g _ _ _ (Arr.below_setCells g _ _ _ (below_drew1 hB) hbg) hbg,
        Kept.of_grown (Arr.grown_setCells g _ _ _) (Kept.of_grown (Arr.grown_setCells g _ _ _) (Kept.drew (Kept.refl w _)) (fun k e => .inl ((Option.some.inj e) ▸ okg))) (fun k e => .inl ((Option.some.inj e) ▸ okg))⟩
    · have hc1 : ((c0 : Int) < (l0.length : Int) + 1) := by omega
      obtain ⟨inf, hi0, hz0, hzs, hzb⟩ := info_parts info60
      have hdl : ((l0.flatMap impl_Notch_60.enc).drop (i * 2)).length = (l0.length - i) * 2 := by rw [List.length_drop, encl, Nat.sub_mul]
      have hvcell : ∀ k, k < l2.length * 2 → w.cell? ⟨gv, k, none⟩ = (l2.flatMap impl_Notch_60.enc)[k]? := by
        intro k hk
        rw [Ins.cell_in hgv, ← cvt, List.getElem?_take, if_pos hk]
        simp
      have hkk : (l0.length : Int) + 1 - (i : Int) = ((l0.length + 1 - i : Nat) : Int) := by omega
      have hik : i + (l0.length + 1 - i) = l0.length + 1 := by omega
      obtain ⟨G, hG⟩ : ∃ G, G = grownCap w (l0.length + 1) c0 60 := ⟨_, rfl⟩
      have hGn : l0.length + 1 ≤ G := by rw [hG]; exact grownCap_ge w _ _ _
      have hGm : G ≤ maxLen := by rw [hG]; exact grownCap_le_maxLen w _ _ _ (by unfold maxLen; omega)
      have hG63 : G ≤ 9223372036854775807 := by unfold maxLen at hGm; omega
      have hGi : ¬ (G = i) := by omega
      have hGim : ¬ (G = i + 1) := by omega
      obtain ⟨ROW, hROW⟩ : ∃ ROW : Array Value, ROW = ((l0.flatMap impl_Notch_60.enc).take (i * 2)).toArray ++ (Builtin.zeroCells (Value.agg #[(.int .i8 0), (.int .i16 0)]).cells (l0.length + 1 - i)).toList.toArray ++ Builtin.zeroCells (Value.agg #[(.int .i8 0), (.int .i16 0)]).cells (G - (l0.length + 1)) := ⟨_, rfl⟩
      have hrz : ∀ ty, (Builtin.append_ #[24, 3] ty #[.slice (some ⟨g, 0, none⟩) i c0, .int .i64 ((l0.length : Int) + 1 - (i : Int))]).run Tryz.prog w = .ok (.slice (some ⟨w.heap.size, 0, none⟩) (l0.length + 1) G) (w.drew.alloc (.cells ROW 60)) := fun ty => by
        have h := Ins.append_make_new w 24 3 ty 60 inf _ Tryz.underlying24 (kn := .i64) Tryz.underlying3 hi0 hz0 (by rw [hzs]; rfl) (by omega) (by omega) ⟨g, 0, none⟩ i c0 .i64 (l0.length + 1 - i) ((l0.flatMap impl_Notch_60.enc).take (i * 2)) (by rw [List.length_take, encl, hzs]; omega)
          (fun j u hj => by
            rw [List.getElem?_take] at hj
            split at hj
            · rw [Addr.add_lit, Nat.zero_add, hcell j (by omega)]; exact hj
            · cases hj) (by omega) (by omega) (by rw [hzb]; omega)
        rw [hik, ← hG, ← hROW] at h
        rw [hkk]
        exact h
      have hz2' : (Value.agg #[(.int .i8 0), (.int .i16 0)]).cells.size = 2 := rfl
      have hRs : ROW.size = G * 2 := by
        rw [hROW]
        simp only [Array.size_append, List.size_toArray, List.length_take, encl, Array.length_toList, size_zeroCells, hz2']
        omega
      have hRt : ROW.toList.take (i * 2) = (l0.flatMap impl_Notch_60.enc).take (i * 2) := by
        rw [hROW]
        simp only [Array.toList_append, List.append_assoc]
        exact List.take_left' (by rw [List.length_take, encl]; omega)
      obtain ⟨W1, hW1⟩ : ∃ W1, W1 = w.drew.alloc (.cells ROW 60) := ⟨_, rfl⟩
      have hN : W1.heap[w.heap.size]? = some (.cells ROW 60 (0, 0)) := by rw [hW1]; exact heap_alloc_new w.drew _
      have hOb : ∀ k x, w.heap[k]? = some x → W1.heap[k]? = some x := fun k x h => by
        rw [hW1]
        exact (heap_alloc_old w.drew _ (blk_lt h)).trans h
      have hgvN : gv ≠ w.heap.size := by omega
      have hgN : g ≠ w.heap.size := by omega
      have hcpA : ∀ (W : World), (∀ x, W.cell? x = W1.cell? x) → (∀ x, W.frozen? x = W1.frozen? x) → ∀ ty dc, (Builtin.copy_ #[24, 24] ty #[.slice (some ⟨w.heap.size, i * 2, none⟩) ((l0.length + 1) - i) dc, .slice (some ⟨gv, 0, none⟩) 1 c2]).run Tryz.prog W = .ok (goInt (1 : Nat)) (W.setCells w.heap.size (i * 2) (l2.flatMap impl_Notch_60.enc)) := fun W hWc hWf ty dc => by
        refine Ins.copyN_run W 24 24 ty 60 2 w.heap.size (i * 2) _ _ ⟨gv, 0, none⟩ _ _ 1 _ Tryz.underlying24 hsize (by show _ = min _ _; omega) (by rw [encv, h2]) ?_ ?_ ?_ (impl_Notch_60.enc_one l2)
        · intro j v hj
          have hlt : j < l2.length * 2 := by rw [← encv]; exact (List.getElem?_eq_some_iff.1 hj).1
          rw [Addr.add_lit, hWc, Ins.cell_in (hOb _ _ hgv), ← Ins.cell_in hgv, Nat.zero_add]
          exact (hvcell _ hlt).trans hj
        · intro j hj
          rw [encv, h2] at hj
          rw [hWc, Ins.cell_in hN, Array.getElem?_eq_getElem (by omega)]
          rfl
        · intro j _
          rw [hWf]
          exact blk_frozen hN _
      obtain ⟨ROW1, hN1, s1, l1⟩ := Ins.row_set hN (i * 2) (l2.flatMap impl_Notch_60.enc) (by rw [encv, h2]; omega)
      have hcpB : ∀ (W : World), (∀ x, W.cell? x = (W1.setCells w.heap.size (i * 2) (l2.flatMap impl_Notch_60.enc)).cell? x) → (∀ x, W.frozen? x = (W1.setCells w.heap.size (i * 2) (l2.flatMap impl_Notch_60.enc)).frozen? x) → ∀ ty dc sc, (Builtin.copy_ #[24, 24] ty #[.slice (some ⟨w.heap.size, (i + 1) * 2, none⟩) (l0.length - i) dc, .slice (some ⟨g, i * 2, none⟩) (l0.length - i) sc]).run Tryz.prog W = .ok (goInt (l0.length - i : Nat)) (W.setCells w.heap.size ((i + 1) * 2) ((l0.flatMap impl_Notch_60.enc).drop (i * 2))) := fun W hWc hWf ty dc sc => by
        refine Ins.copyN_run W 24 24 ty 60 2 w.heap.size ((i + 1) * 2) _ _ ⟨g, i * 2, none⟩ _ _ (l0.length - i) _ Tryz.underlying24 hsize (by show _ = min _ _; omega) hdl ?_ ?_ ?_ ?_
        · intro j v hj
          rw [List.getElem?_drop] at hj
          have hlt : i * 2 + j < l0.length * 2 := by rw [← encl]; exact (List.getElem?_eq_some_iff.1 hj).1
          rw [Addr.add_lit, hWc, World.cell?_setCells_out _ _ _ _ _ (fun h _ => absurd h hgN), Ins.cell_in (hOb _ _ hg), ← Ins.cell_in hg]
          exact (hcell _ hlt).trans hj
        · intro j hj
          rw [hdl] at hj
          rw [hWc, Ins.cell_in hN1, Array.getElem?_eq_getElem (by omega)]
          rfl
        · intro j _
          rw [hWf]
          exact blk_frozen hN1 _
        · intro v hv'
          exact impl_Notch_60.enc_one l0 v (List.mem_of_mem_drop hv')
      subst hW1
      have hE1 : ∀ x, ((w.alloc (.cells ROW 60)).drew).cell? x = (w.drew.alloc (.cells ROW 60)).cell? x := fun x => rfl
      have hE2 : ∀ x, ((w.alloc (.cells ROW 60)).drew).frozen? x = (w.drew.alloc (.cells ROW 60)).frozen? x := fun x => rfl
      have hF1 : ∀ x, (((w.alloc (.cells ROW 60)).drew.setCells w.heap.size (i * 2) (l2.flatMap impl_Notch_60.enc)).drew).cell? x = ((w.drew.alloc (.cells ROW 60)).setCells w.heap.size (i * 2) (l2.flatMap impl_Notch_60.enc)).cell? x := fun x => rfl
      have hF2 : ∀ x, (((w.alloc (.cells ROW 60)).drew.setCells w.heap.size (i * 2) (l2.flatMap impl_Notch_60.enc)).drew).frozen? x = ((w.drew.alloc (.cells ROW 60)).setCells w.heap.size (i * 2) (l2.flatMap impl_Notch_60.enc)).frozen? x := fun x => rfl
      have encd := Ins.flat_len impl_Notch_60.enc_len (l0.drop i)
      obtain ⟨R1, hR1, z1, y1⟩ := Ins.row_set (w := (w.alloc (.cells ROW 60)).drew) (g := w.heap.size) (cur := ROW) (t := 60) (heap_alloc_new w _) (i * 2) (l2.flatMap impl_Notch_60.enc) (by rw [encv, h2]; omega)
      obtain ⟨R2, hR2, z2, y2⟩ := Ins.row_set (w := ((w.alloc (.cells ROW 60)).drew.setCells w.heap.size (i * 2) (l2.flatMap impl_Notch_60.enc)).drew) (cur := R1) hR1 ((i + 1) * 2) ((l0.flatMap impl_Notch_60.enc).drop (i * 2)) (by rw [hdl]; omega)
      have hrow : R2.toList.take ((l0.length + 1) * 2) = r.flatMap impl_Notch_60.enc := by
        have h5 := Ins.filled ROW.toList (l2.flatMap impl_Notch_60.enc) [] (l0.flatMap impl_Notch_60.enc) (i * 2) (l0.length * 2) 2 encl (by omega) (by rw [encv, h2]) hRt (by rw [show ROW.toList.length = ROW.size from by simp]; omega) R1.toList R2.toList
          (by rw [y1, encv, h2]) (by rw [y2, hdl, show (i + 1) * 2 = i * 2 + 2 by omega, show (l0.length - i) * 2 = l0.length * 2 - i * 2 by omega])
        rw [show (l0.length + 1) * 2 = l0.length * 2 + 2 by omega, h5, hr, List.flatMap_append, List.flatMap_append, Ins.flat_take impl_Notch_60.enc_len l0 i (by omega), Ins.flat_drop impl_Notch_60.enc_len l0 i (by omega)]
      have hrl := Aside0.mk (show l0.length + 1 = r.length by rw [hr]; simp; omega)
      have hrow := Aside0.mk hrow
      have hsz2 := Aside0.mk (show R2.size = G * 2 by omega)
      have hR2 := Aside0.mk hR2
      have hws := Aside0.mk hB.size
      clear z1 z2 y1 y2 hR1 s1 l1 hRs hRt encd
      clear hkk hROW hG
      go_enter Tryz.func60, Tryz.ntmps60
      go_wp2_with (first
        | (at_builtin; refine Lib.wpList_append_run _ rfl _ _ _ _ rfl _ _ rfl rfl _ _ (hrz _) ?_)
        | (at_builtin; refine Ins.wpList_copyN _ rfl _ _ 24 24 rfl _ _ rfl rfl (hcpA _ hE1 hE2 _ _) ?_)
        | (at_builtin; refine Ins.wpList_copyN _ rfl _ _ 24 24 rfl _ _ rfl rfl (hcpB _ (fun _ => rfl) (fun _ => rfl) _ _ _) ?_))
      go_region_law_o (refine Ins.step_copyN rfl _ _ 24 24 rfl (.slice (some ⟨w.heap.size, (i + 1) * 2, none⟩) (l0.length - i) (G - (i + 1))) (.slice (some ⟨g, i * 2, none⟩) (l0.length - i) (c0 - i)) (by simp [Act.eval, Act.put]) (by simp [Act.eval, Act.put]) (hcpB _ hF1 hF2 3 (G - (i + 1)) (c0 - i)) ?_)
      go_wp2
      go_ret
      exact ⟨_, rfl, impl_Notch_60.mk (.inr (Nat.le_refl _)) hws.out hR2.out hrl.out hGn hGm hsz2.out hrow.out,
        Arr.below_setCells _ _ _ _ (below_drew1 (Arr.below_setCells _ _ _ _ (below_drew1 (hB.alloc hws.out _)) hws.out)) hws.out,
        Kept.of_grown (Arr.grown_setCells _ _ _ _) (Kept.drew (Kept.of_grown (Arr.grown_setCells _ _ _ _) (Kept.drew (Kept.alloc (Kept.refl w _) _)) (fun k e => .inr (Nat.le_of_eq (Option.some.inj e))))) (fun k e => .inr (Nat.le_of_eq (Option.some.inj e)))⟩

/-! ### impl_Notch_61: function 61 -/
def impl_Notch_61.f (l0 : List (S60)) : Option ((List (S60))) := (some (([] : List (S60)) : List (S60))).bind fun y281 => (if y281.length + l0.length < 35184372088832 then (some (y281 ++ l0)) else (none))
set_option maxHeartbeats 8000000 in
set_option maxRecDepth 100000 in
theorem impl_Notch_61.calls (A0 : Option Addr) (c0 : Nat) (l0 : List (S60)) (r : List (S60)) (w : World) (hr0 : Kd.C k60 w A0 l0.length l0) (hc0 : l0.length ≤ c0) (h : impl_Notch_61.f l0 = some r) :
    Calls Tryz.prog 61 #[.slice A0 l0.length c0] w fun e w' => ∃ v0_ : Value, e = .returned (v0_) ∧ Kd.R k60 60 w' w.heap.size (fun _ => True) v0_ r ∧ Below w.heap.size w w' := by
  rcases A0 with _ | A0
  ·obtain rfl : l0 = [] := by
     cases l0 with
     | nil => rfl
     | cons a l => obtain ⟨ad, e, _⟩ := hr0.2.2 (by simp); cases e
   have hr : r = [] := by
     have h2 := h; simp [impl_Notch_61.f] at h2; first | exact h2 | exact h2.symm
   subst hr; (have hq_ := fun (w : World) (a : Option Addr) (n c n1 c1 : Nat) => Lib.run_eql_slice_nil (P := Tryz.prog) w 24 60 a n c n1 c1 Tryz.underlying24); go_enter Tryz.func61, Tryz.ntmps61; go_wp2; go_ret; exact ⟨_, rfl, Kd.R_nil _ _ _ _ _, by repeat (first | exact Below.refl _ _ | apply below_alloc | apply pw_below_drewN | apply below_drew1)⟩
  ·(have hq_ := fun (w : World) (a : Option Addr) (n c n1 c1 : Nat) => Lib.run_eql_slice_nil (P := Tryz.prog) w 24 60 a n c n1 c1 Tryz.underlying24); have HR0 := Aside0.mk hr0; have HC0 := Aside0.mk hc0; clear hr0 hc0; have HB := Aside0.mk (Below.refl w.heap.size w); have H : ((some (([] : List (S60)) : List (S60))).bind fun y281 => (if y281.length + l0.length < 35184372088832 then (some (y281 ++ l0)) else (none))) = some r := h; clear h; obtain ⟨y281, hy281⟩ : ∃ y_ : List (S60), y_ = (([] : List (S60))) := ⟨_, rfl⟩; (replace H : (if y281.length + l0.length < 35184372088832 then (some (y281 ++ l0)) else (none)) = some r := by first | (rw [hy281]; with_reducible exact H) | (have H2_ := (Option.bind_some _ _).symm.trans H; rw [hy281]; with_reducible exact H2_) | (have H2_ := (Option.bind_some _ _).symm.trans H; with_reducible exact H2_) | with_reducible exact H | (rw [hy281]; exact H) | exact H); have Ny281 := Aside0.mk hy281; clear hy281; by_cases c2 : y281.length + l0.length < 35184372088832
   ·rw [if_pos c2] at H; have LMc2 := Aside0.mk c2; clear c2; obtain ⟨y284, hy284⟩ : ∃ y_ : List (S60), y_ = (y281 ++ l0) := ⟨_, rfl⟩; (replace H : (some y284) = some r := by first | (rw [hy284]; with_reducible exact H) | (have H2_ := (Option.bind_some _ _).symm.trans H; rw [hy284]; with_reducible exact H2_) | (have H2_ := (Option.bind_some _ _).symm.trans H; with_reducible exact H2_) | with_reducible exact H | (rw [hy284]; exact H) | exact H); have Ny284 := Aside0.mk hy284; clear hy284; obtain rfl := Option.some.inj H; go_enter Tryz.func61, Tryz.ntmps61; go_wp2_with (first | ((with_reducible refine gate_dst (N := 5) rfl ?_); refine Kd.R_lit k60 _ 60 ?hg (N := 5) ?hd (xs := ([] : List (S60))) (inner := []) (ok := fun _ => True) (okp := fun _ => True) ?hr ?hp (fun _ hk => hk) trivial (Below.refl _ _) (Nat.le_refl _) (by simp) ?_; (case hd => rfl); (case hg => rfl); (case hr => first | (go_simp; done) | (go_simp; rfl)); (case hp => exact (Reps.none _ _)); intro v282 w3 ho4 hb hg_ hnew_; clear hg_ hnew_; (first | rw [← Ny281.out] at ho4 | (simp only [Int.reduceToNat] at ho4; rw [← Ny281.out] at ho4)); have HO283 := Aside0.mk (Kd.R_lower ho4 (below_size z0_)); replace HB := Aside0.mk (below_step z0_ hb); clear hb ho4) | ((with_reducible refine gate_builtin (b := .append) (xs := #[.tmp 5, .tmp 6]) rfl ?_); at_builtin; refine Kd.R_append_rows k60 (w0 := w) w.heap.size rfl (.tmp 5) (.tmp 6) 24 60 (.agg #[(.int .i8 0), (.int .i16 0)]) 4 rfl Tryz.underlying24 info60 rfl (by decide) (by omega) v282 y281 l0 _ _ _ (fun _ => True) (fun _ => False) rfl rfl ?aO ?aR (fun _ _ h => h) (fun _ h => h.elim) ?aF ?aB ?aS ?aL ?_; (case aR => repeat (first | exact (Kd.C_below HR0.out HB.out) | (with_reducible refine Kd.C_alloc ?_ _) | (with_reducible refine Kd.C_drewN ?_ _) | (with_reducible refine Kd.C_drew ?_))); (case aB => exact z0_); (case aF => exact (fun _ _ => trivial)); (case aO => exact (by (with_reducible repeat (first | apply Kd.R_alloc | apply Kd.R_drewN | apply Kd.R_drew)); exact HO283.out)); (case aS => exact (below_size z0_)); (case aL => have := LMc2.out; omega); intro v285 w5 ho hb hg hat; rw [← Ny284.out] at ho; replace HB := Aside0.mk (hb); have HO286 := Aside0.mk (ho); clear HO283; clear ho hb hg hat)); go_ret; exact ⟨_, z6_, by (with_reducible repeat (first | apply Kd.R_alloc | apply Kd.R_drewN | apply Kd.R_drew)); exact HO286.out, z0_⟩
   ·rw [if_neg c2] at H; exact absurd H (by simp)

/-! ### impl_cut: function 39 -/
def impl_cut.l0 : Nat → Int → Int → Int → Bool → List (S60) → Vector Int 16 → Option (Bool × (List (S60)) × Vector Int 16 × Bool)
  | 0, _, _, _, _, _, _ => none
  | k + 1, x1, x2, x8, x288000, x288001, x288002 => if x8 < (x288001.length : Int) then (if 0 ≤ x8 then (if (wrap64 ((rd_T60 x288001 x8).f1)) ≤ x2 then (impl_cut.l0 k x1 x2 (wrap64 (x8 + 1)) x288000 x288001 x288002) else ((impl_Notch_61.f x288001).bind fun t290 => ((impl_Notch_60.f t290 x8 (([(⟨IntKind.i8.wrap (x1), IntKind.i16.wrap (x2)⟩ : S60)] : List (S60)))).bind fun t296 => ((impl_ValidHalf.f k x288000 t296 x288002).bind fun t299 => (some (x288000, t296, x288002, t299)))))) else (none)) else ((impl_Notch_61.f x288001).bind fun t300 => ((impl_Notch_60.f t300 x8 (([(⟨IntKind.i8.wrap (x1), IntKind.i16.wrap (x2)⟩ : S60)] : List (S60)))).bind fun t306 => ((impl_ValidHalf.f k x288000 t306 x288002).bind fun t309 => (some (x288000, t306, x288002, t309)))))
def impl_cut.f (k : Nat) (a0_0 : Bool) (l0_1 : List (S60)) (a0_2 : Vector Int 16) (a1 : Int) (a2 : Int) : Option (Bool × (List (S60)) × Vector Int 16 × Bool) := impl_cut.l0 k a1 a2 0 a0_0 l0_1 a0_2
theorem impl_cut.mono_l : ∀ k, (∀ y0 y1 y2 y3 y4 y5, LeO (impl_cut.l0 k y0 y1 y2 y3 y4 y5) (impl_cut.l0 (k + 1) y0 y1 y2 y3 y4 y5))
  | 0 => fun _ _ _ _ _ _ r h => by simp [impl_cut.l0] at h
  | k + 1 => by
    have ih0 := impl_cut.mono_l k
    · intro y0 y1 y2 y3 y4 y5
      unfold impl_cut.l0
      with_reducible repeat' first | exact ih0 _ _ _ _ _ _ | exact impl_ValidHalf.mono _ _ _ _ | exact LeO.refl _ | exact LeO.none _ | refine LeO.ite ?_ ?_ | refine LeO.bind ?_ (fun _ => ?_)
theorem impl_cut.mono : ∀ a0 a1 a2 a3 a4 k, LeO (impl_cut.f k a0 a1 a2 a3 a4) (impl_cut.f (k + 1) a0 a1 a2 a3 a4) := by
  intro a0 a1 a2 a3 a4 k; have ih0 := impl_cut.mono_l k; unfold impl_cut.f
  with_reducible repeat' first | exact ih0 _ _ _ _ _ _ | exact impl_ValidHalf.mono _ _ _ _ | exact LeO.refl _ | exact LeO.none _ | refine LeO.ite ?_ ?_ | refine LeO.bind ?_ (fun _ => ?_)
set_option maxHeartbeats 8000000 in
set_option maxRecDepth 100000 in
theorem impl_cut.calls (k : Nat) (a0_0 : Bool) (A0_1 : Option Addr) (c0_1 : Nat) (l0_1 : List (S60)) (a0_2 : Vector Int 16) (a1 : Int) (a2 : Int) (r1 : Bool) (r2 : List (S60)) (r3 : Vector Int 16) (r4 : Bool) (w : World) (hr0_1 : Kd.C k60 w A0_1 l0_1.length l0_1) (hc0_1 : l0_1.length ≤ c0_1) (h : impl_cut.f k a0_0 l0_1 a0_2 a1 a2 = some (r1, r2, r3, r4)) :
    Calls Tryz.prog 39 #[.agg (⟨(.bool a0_0) :: (.slice A0_1 l0_1.length c0_1) :: Arr.arL .i8 a0_2⟩ : Array Value), .int .i64 a1, .int .i64 a2] w fun e w' => ∃ v1_ : Value, e = .returned (.tuple #[.agg (⟨(.bool r1) :: (v1_) :: Arr.arL .i8 r3⟩ : Array Value), .bool r4]) ∧ Kd.R k60 60 w' w.heap.size (fun _ => True) v1_ r2 ∧ Below w.heap.size w w' := by
  have hu29 := Tryz.underlying29; have hu60 := Tryz.underlying60; have HR0_1 := Aside0.mk hr0_1; have HC0_1 := Aside0.mk hc0_1; clear hr0_1 hc0_1; have HB := Aside0.mk (Below.refl w.heap.size w); have H : (impl_cut.l0 k a1 a2 0 a0_0 l0_1 a0_2) = some (r1, r2, r3, r4) := h; clear h; have H' := Aside0.mk H; clear H; go_enter Tryz.func39, Tryz.ntmps39; go_wp2_with (first | ((with_reducible refine gate_dst (N := 3) rfl ?_); refine box_event ?hg (N := 3) ?hd (cs := (⟨(.bool a0_0) :: (.slice A0_1 l0_1.length c0_1) :: Arr.arL .i8 a0_2⟩ : Array Value)) (t := 29) ?hr ?_; (case hd => rfl); (case hg => rfl); (case hr => first | (go_simp; done) | (go_simp; rfl)); intro gb287 hg w4 hbox hb; have BK287 := Aside0.mk (hbox); have GW287 := ns_ z0_ hg; have GE287 := ns_ z0_ hg; replace HB := Aside0.mk (below_step z0_ hb); clear hb hbox hg) | ((with_reducible refine gate_dst (N := 6) rfl ?_); refine box_event ?hg (N := 6) ?hd (cs := (⟨(.bool false) :: (.slice none 0 0) :: Arr.arL .i8 (Vector.replicate 16 0 : Vector Int 16)⟩ : Array Value)) (t := 29) ?hr ?_; (case hd => rfl); (case hg => rfl); (case hr => first | (go_simp; done) | (go_simp; rfl)); intro gb288 hg w5 hbox hb; have BK288 := Aside0.mk (hbox); have GW288 := ns_ z148_ hg; have GE288 := ns_ z148_ hg; replace HB := Aside0.mk (below_step z148_ hb); have NB287_288 := nl_ BK287 z65_ hg; have NB288_287 := ng_ BK287 z65_ hg; replace BK287 := Aside0.mk (kb_ BK287 z65_ hb); clear hb hbox hg)); go_loopg [8] k (fun kq v8 w' => ∃ (x8_1 : Int), v8 = .int .i64 x8_1 ∧ Aside0 (impl_cut.l0 kq a1 a2 x8_1 a0_0 l0_1 a0_2 = some (r1, r2, r3, r4)) ∧ Aside0 (kq ≤ k) ∧ Aside0 (w'.heap[gb287]? = some (.cells (⟨(.bool a0_0) :: ((.slice A0_1 l0_1.length c0_1)) :: Arr.arL .i8 a0_2⟩ : Array Value) 29 (0, 0))) ∧ Aside0 (w'.heap[gb288]? = some (.cells (⟨(.bool false) :: ((.slice none 0 0)) :: Arr.arL .i8 (Vector.replicate 16 0 : Vector Int 16)⟩ : Array Value) 29 (0, 0))) ∧ Aside0 (Below w.heap.size w w'))
  case atStart => exact ⟨(0), z9_, H', ⟨Nat.le_refl _⟩, ⟨z65_⟩, ⟨z59_⟩, ⟨z24_⟩⟩
  case round =>
    clear H'; (try clear p2); (try clear c3); obtain ⟨x8_1, rfl, HA, HK1, BK287, BK288, HB⟩ := hrel
    cases gk with
    | zero => exact absurd HA.out (by simp [impl_cut.l0])
    | succ k1 =>
      have H := HA.out; clear HA; simp only [impl_cut.l0] at H; by_cases c6 : x8_1 < (l0_1.length : Int)
      ·rw [if_pos c6] at H; have c6b0 : decide (x8_1 < (l0_1.length : Int)) = true := decide_eq_true c6; clear c6; by_cases c7 : 0 ≤ x8_1
       ·rw [if_pos c7] at H; have c7b0 : decide (0 ≤ x8_1) = true := decide_eq_true c7; clear c7; by_cases c8 : (wrap64 ((rd_T60 l0_1 x8_1).f1)) ≤ a2
        ·rw [if_pos c8] at H; have c8b0 : decide ((wrap64 ((rd_T60 l0_1 x8_1).f1)) ≤ a2) = true := decide_eq_true c8; clear c8; have H' := Aside0.mk H; clear H; have hnb9 := NB287_288.out; have hnc9 := NB288_287.out; have hcz10_0 : wr.cell? ⟨gb287, 0, none⟩ = some (.bool a0_0) := (blk_cell BK287.out 0).trans rfl; have hcz10_1 : wr.cell? ⟨gb287, 1, none⟩ = some (.slice A0_1 l0_1.length c0_1) := (blk_cell BK287.out 1).trans rfl; have hfz10_0 := blk_frozen BK287.out 0; have hfz10_1 := blk_frozen BK287.out 1; have p289 : 0 ≤ (x8_1 : Int) := of_decide_eq_true z2_; have q289 : x8_1 < (l0_1.length : Int) := of_decide_eq_true z2_; obtain ⟨ad289, e289, hx289_0, hx289_1⟩ := at_T60 HR0_1.out x8_1 p289 q289; cases e289; (try replace hx289_0 := (HB.out.cell (World.block_lt_of_cell? w _ hx289_0)).trans hx289_0); (try replace hx289_1 := (HB.out.cell (World.block_lt_of_cell? w _ hx289_1)).trans hx289_1); replace p289 := eq_true p289; replace q289 := eq_true q289; go_wp2; go_roundg k1
         case measure => have := HK1.out; omega
         case rel => exact ⟨(wrap64 (x8_1 + 1)), z9_, H', ⟨z133_⟩, ⟨z65_⟩, ⟨z59_⟩, ⟨z24_⟩⟩
        ·rw [if_neg c8] at H; have c8b0 : decide ((wrap64 ((rd_T60 l0_1 x8_1).f1)) ≤ a2) = false := decide_eq_false c8; clear c8; replace H := Option.bind_eq_some_iff.mp H; obtain ⟨t290, A110, H⟩ := H;  have A11 := Aside0.mk A110; clear A110; obtain ⟨y293, hy293⟩ : ∃ y_ : List (S60), y_ = (([(⟨IntKind.i8.wrap (a1), IntKind.i16.wrap (a2)⟩ : S60)] : List (S60))) := ⟨_, rfl⟩; (replace H : ((impl_Notch_60.f t290 x8_1 y293).bind fun t296 => ((impl_ValidHalf.f k1 a0_0 t296 a0_2).bind fun t299 => (some (a0_0, t296, a0_2, t299)))) = some (r1, r2, r3, r4) := by first | (rw [hy293]; with_reducible exact H) | (have H2_ := (Option.bind_some _ _).symm.trans H; rw [hy293]; with_reducible exact H2_) | (have H2_ := (Option.bind_some _ _).symm.trans H; with_reducible exact H2_) | with_reducible exact H | (rw [hy293]; exact H) | exact H); have Ny293 := Aside0.mk hy293; clear hy293; replace H := Option.bind_eq_some_iff.mp H; obtain ⟨t296, A120, H⟩ := H;  have A12 := Aside0.mk A120; clear A120; replace H := Option.bind_eq_some_iff.mp H; obtain ⟨t299, A150, H⟩ := H;  have A15 := Aside0.mk A150; clear A150; simp only [Option.some.injEq, Prod.mk.injEq] at H; obtain ⟨rfl, rfl, rfl, rfl⟩ := H; have hnb17 := NB287_288.out; have hnc17 := NB288_287.out; have hcz18_0 : wr.cell? ⟨gb287, 0, none⟩ = some (.bool a0_0) := (blk_cell BK287.out 0).trans rfl; have hcz18_1 : wr.cell? ⟨gb287, 1, none⟩ = some (.slice A0_1 l0_1.length c0_1) := (blk_cell BK287.out 1).trans rfl; have hfz18_0 := blk_frozen BK287.out 0; have hfz18_1 := blk_frozen BK287.out 1; have p289 : 0 ≤ (x8_1 : Int) := of_decide_eq_true z2_; have q289 : x8_1 < (l0_1.length : Int) := of_decide_eq_true z2_; obtain ⟨ad289, e289, hx289_0, hx289_1⟩ := at_T60 HR0_1.out x8_1 p289 q289; cases e289; (try replace hx289_0 := (HB.out.cell (World.block_lt_of_cell? w _ hx289_0)).trans hx289_0); (try replace hx289_1 := (HB.out.cell (World.block_lt_of_cell? w _ hx289_1)).trans hx289_1); replace p289 := eq_true p289; replace q289 := eq_true q289; (try go_wp2_with (first | ((with_reducible refine gate_callee (f := 61) rfl ?_); refine goesL_ (some 29) rfl rfl Tryz.func61 z8_ rfl #[.slice (some ad289) l0_1.length c0_1] rfl z1_ ?_; (with_reducible refine (impl_Notch_61.calls _ _ l0_1 t290 _ ?side1 ?side2 A11.out).mono ?_); (case side1 => repeat (first | exact (Kd.C_below HR0_1.out HB.out) | (with_reducible refine Kd.C_alloc ?_ _) | (with_reducible refine Kd.C_drewN ?_ _) | (with_reducible refine Kd.C_drew ?_))); (case side2 => exact HC0_1.out); rintro e w19 ⟨v291, rfl, ho0, hb⟩; refine ⟨_, rfl, ?_⟩; have HO292 := Aside0.mk (Kd.R_lower ho0 (below_size z24_)); replace BK287 := Aside0.mk (kb_ BK287 z65_ hb); replace BK288 := Aside0.mk (kb_ BK288 z59_ hb); replace HB := Aside0.mk (below_step z24_ hb); (try clear hb); (try clear ho0)) | ((with_reducible refine gate_dst (N := 36) rfl ?_); refine Kd.R_lit k60 _ 60 ?hg (N := 36) ?hd (xs := ([(⟨IntKind.i8.wrap (a1), IntKind.i16.wrap (a2)⟩ : S60)] : List (S60))) (inner := [.int .i8 (IntKind.i8.wrap (a1)), .int .i16 (IntKind.i16.wrap (a2))]) (ok := fun _ => True) (okp := fun _ => True) ?hr ?hp (fun _ hk => hk) trivial (Below.refl _ _) (Nat.le_refl _) (by simp) ?_; (case hd => rfl); (case hg => rfl); (case hr => first | (go_simp; done) | (go_simp; rfl)); (case hp => exact (Reps.c2 (show Kd.M k60 _ _ _ (⟨IntKind.i8.wrap (a1), IntKind.i16.wrap (a2)⟩ : S60) [.int .i8 (IntKind.i8.wrap (a1)), .int .i16 (IntKind.i16.wrap (a2))] from (k60_mkM _ _ _ (⟨IntKind.i8.wrap (a1), IntKind.i16.wrap (a2)⟩ : S60) )) (Reps.none _ _))); intro v294 w20 ho21 hb hg_ hnew_; clear hg_ hnew_; (first | rw [← Ny293.out] at ho21 | (simp only [Int.reduceToNat] at ho21; rw [← Ny293.out] at ho21)); have HO295 := Aside0.mk (Kd.R_lower (Kd.R_new' ho21 (Kd.R_lt (by (with_reducible repeat (first | apply Kd.R_alloc | apply Kd.R_drewN | apply Kd.R_drew)); exact HO292.out))) (below_size z24_)); replace HO292 := Aside0.mk (Kd.R_elder' (by (with_reducible repeat (first | apply Kd.R_alloc | apply Kd.R_drewN | apply Kd.R_drew)); exact HO292.out) (Kd.R_base ho21) hb); replace BK287 := Aside0.mk (kb_ BK287 z65_ hb); replace BK288 := Aside0.mk (kb_ BK288 z59_ hb); replace HB := Aside0.mk (below_step z24_ hb); clear hb ho21; obtain ⟨Ao22, co22, eo22⟩ := Kd.R_slice HO292.out; subst eo22; obtain ⟨Ao23, co23, eo23⟩ := Kd.R_slice HO295.out; subst eo23) | ((with_reducible refine gate_callee (f := 60) rfl ?_); refine goesL_ (some 37) rfl rfl Tryz.func60 z8_ rfl #[.slice Ao22 t290.length co22, .int .i64 x8_1, .slice Ao23 y293.length co23] rfl z1_ ?_; (with_reducible refine (impl_Notch_60.calls (fun k_ => some k_ = (.slice Ao22 t290.length co22 : Value).ownBlock) (.slice Ao22 t290.length co22) t290 x8_1 _ _ y293 t296 w _ ?side1 ?side2 ?side3 ?side4 A12.out).mono ?_); (case side1 => repeat (first | (with_reducible first | exact HB.out | apply below_alloc | apply pw_below_drewN | apply below_drew1 | refine below_set ?_ GE287.out | refine below_set ?_ GE288.out) | exact HB.out)); (case side2 => exact Kd.R_tight rfl HO292.out); (case side3 => exact ⟨_, _, (HO295.out), (fun k_ hk_ hs_ => (hk_.2) hs_)⟩); (case side4 => exact (Kd.R_reads' HO295.out).2.1); rintro e w24 ⟨v297, rfl, ho0, hb, hkp⟩; refine ⟨_, rfl, ?_⟩; replace BK287 := Aside0.mk (blk_kept z65_ hkp (fun hs_ => (fun e_ => (Kd.R_ne HO292.out BK287.out (by decide)) e_) hs_)); replace BK288 := Aside0.mk (blk_kept z59_ hkp (fun hs_ => (fun e_ => (Kd.R_ne HO292.out BK288.out (by decide)) e_) hs_)); have HO298 := Aside0.mk (Kd.R_mono (ok' := fun k_ => some k_ ≠ (.slice Ao23 y293.length co23 : Value).ownBlock) ho0 (fun k_ hk_ => Or.elim hk_ (fun hs_ => fun e_ => (((HO295.out).1 k_ e_.symm).2) hs_) (fun hn_ => (Kd.fresh' (Kd.R_lt z166_) k_ hn_)))); replace HO295 := Aside0.mk (Kd.R_mono (ok' := fun k_ => some k_ ≠ (v297 : Value).ownBlock) (Kd.R_keptB (HO295.out) hkp (fun k_ hk_ hs_ => (hk_.2) hs_)) (fun k_ hk_ => fun e_ => Or.elim (ho0.1 k_ e_.symm) (fun hs_ => hk_.2.1 hs_) (fun hn_ => Nat.not_le.2 hk_.2.2 hn_))); replace HB := Aside0.mk (hb); clear HO292; (try clear hb); (try clear hkp); (try clear ho0); obtain ⟨Ao25, co25, eo25⟩ := Kd.R_slice HO298.out; subst eo25; have hcz26_0 : w24.cell? ⟨gb287, 0, none⟩ = some (.bool a0_0) := (blk_cell BK287.out 0).trans rfl; have hcz26_1 : w24.cell? ⟨gb287, 1, none⟩ = some (.slice (some ad289) l0_1.length c0_1) := (blk_cell BK287.out 1).trans rfl; have hfz26_0 := blk_frozen BK287.out 0; have hfz26_1 := blk_frozen BK287.out 1))); have n0_ : Aside0 (Kd.R k60 60 (w24.setCell ⟨gb287, 1, none⟩ (.slice Ao25 t296.length co25)) w.heap.size (fun k_ => some k_ ≠ (.slice Ao25 t296.length co25 : Value).ownBlock) (.slice Ao23 y293.length co23) y293) := ⟨by (with_reducible repeat (first | apply Kd.R_alloc | apply Kd.R_drewN | apply Kd.R_drew)); exact Kd.R_mono (Kd.R_far (p := ⟨gb287, 1, none⟩) (Kd.R_types HO295.out BK287.out (by decide)) (fun _ hk => hk.2) (.slice Ao25 t296.length co25)) (fun _ hk => hk.1)⟩; have n1_ : Aside0 (Kd.R k60 60 (w24.setCell ⟨gb287, 1, none⟩ (.slice Ao25 t296.length co25)) w.heap.size (fun k_ => some k_ ≠ (.slice Ao23 y293.length co23 : Value).ownBlock) (.slice Ao25 t296.length co25) t296) := ⟨by (with_reducible repeat (first | apply Kd.R_alloc | apply Kd.R_drewN | apply Kd.R_drew)); exact Kd.R_mono (Kd.R_far (p := ⟨gb287, 1, none⟩) (Kd.R_types HO298.out BK287.out (by decide)) (fun _ hk => hk.2) (.slice Ao25 t296.length co25)) (fun _ hk => hk.1)⟩; have n2_ : Aside0 ((w24.setCell ⟨gb287, 1, none⟩ (.slice Ao25 t296.length co25)).heap[gb287]? = some (.cells (⟨(.bool a0_0) :: (.slice Ao25 t296.length co25) :: Arr.arL .i8 a0_2⟩ : Array Value) 29 (0, 0))) := ⟨by (with_reducible repeat (first | refine blk_drewN ?_ _ | refine blk_drew ?_ | refine blk_alloc ?_ _)); refine blk_put (cs := (⟨(.bool a0_0) :: (.slice (some ad289) l0_1.length c0_1) :: Arr.arL .i8 a0_2⟩ : Array Value)) ?_ 1 _ rfl; (with_reducible repeat (first | refine blk_drewN ?_ _ | refine blk_drew ?_ | refine blk_alloc ?_ _)); exact BK287.out⟩; have n3_ : Aside0 ((w24.setCell ⟨gb287, 1, none⟩ (.slice Ao25 t296.length co25)).heap[gb288]? = some (.cells (⟨(.bool false) :: (.slice none 0 0) :: Arr.arL .i8 (Vector.replicate 16 0 : Vector Int 16)⟩ : Array Value) 29 (0, 0))) := ⟨by (with_reducible repeat (first | refine blk_drewN ?_ _ | refine blk_drew ?_ | refine blk_alloc ?_ _)); refine blk_far ?_ NB288_287.out _; (with_reducible repeat (first | refine blk_drewN ?_ _ | refine blk_drew ?_ | refine blk_alloc ?_ _)); exact BK288.out⟩; have n4_ : Aside0 (Below w.heap.size w (w24.setCell ⟨gb287, 1, none⟩ (.slice Ao25 t296.length co25))) := ⟨z24_⟩; (try clear HO295); (try clear HO298); (try clear BK287); (try clear BK288); (try clear HB); generalize (w24.setCell ⟨gb287, 1, none⟩ (.slice Ao25 t296.length co25)) = w27 at n0_ n1_ n2_ n3_ n4_ ⊢; have HO295 := n0_; have HO298 := n1_; have BK287 := n2_; have BK288 := n3_; have HB := n4_; clear n0_ n1_ n2_ n3_ n4_; replace HO295 := Aside0.mk (Kd.R_drew HO295.out); replace HO298 := Aside0.mk (Kd.R_drew HO298.out); replace BK287 := Aside0.mk (blk_drew BK287.out); replace BK288 := Aside0.mk (blk_drew BK288.out); replace HB := Aside0.mk (below_drew1 HB.out); refine start_ (n := 5) (S := fun w' => w'.heap[gb287]? = some (.cells (⟨(.bool a0_0) :: (.slice Ao25 t296.length co25) :: Arr.arL .i8 a0_2⟩ : Array Value) 29 (0, 0))) (ds := [3]) #[f_,f_,f_,f_,f_] z8_ rfl rfl (BK287.out) (fun hHeld => ?_); generalize w27.drew = w28 at HO295 HO298 BK287 BK288 HB hHeld ⊢; refine take_ (i := 0) (N := some 39) (v := ?_) (a' := ?_) #[t_,f_,f_,f_,f_] rfl rfl z8_ (fun _ _ _ h => h) (Or.inl ⟨by rfl, ?_⟩) hHeld ?_ ?_; rotate_left
         ·intro w' s0; refine Arr.exec_load (T := 29) (p := 3) (g := gb287) (off := 0) (t := 29) (l := ((.bool a0_0) :: (.slice Ao25 t296.length co25) :: Arr.arL .i8 a0_2)) (m := ((.bool a0_0) :: (.slice Ao25 t296.length co25) :: Arr.arL .i8 a0_2)) (fr := (0, 0)) (n := 18) ?_ ?_ s0 ?_ Tryz.underlying29 ?_ ?_ ?_
          ·rfl
          ·first | (go_simp; done) | rfl | (go_simp; rfl)
          ·rfl
          ·rfl
          ·kernel_rfl
          ·simp [Arr.arL_length]
         rotate_left
         ·simp only [Act.put, List.setIfInBounds_toArray, List.set_cons_zero, List.set_cons_succ, i64_w, i32_w]; rfl
         refine take_ (i := 1) (N := some 40) (v := ?_) (a' := ?_) #[t_,t_,f_,f_,f_] rfl rfl z8_ (fun _ _ _ h => h) (Or.inl ⟨by rfl, ?_⟩) hHeld ?_ ?_; rotate_left
         ·intro w' s0; refine Arr.exec_load (T := 29) (p := 3) (g := gb287) (off := 0) (t := 29) (l := ((.bool a0_0) :: (.slice Ao25 t296.length co25) :: Arr.arL .i8 a0_2)) (m := ((.bool a0_0) :: (.slice Ao25 t296.length co25) :: Arr.arL .i8 a0_2)) (fr := (0, 0)) (n := 18) ?_ ?_ s0 ?_ Tryz.underlying29 ?_ ?_ ?_
          ·rfl
          ·first | (go_simp; done) | rfl | (go_simp; rfl)
          ·rfl
          ·rfl
          ·kernel_rfl
          ·simp [Arr.arL_length]
         rotate_left
         ·simp only [Act.put, List.setIfInBounds_toArray, List.set_cons_zero, List.set_cons_succ, i64_w, i32_w]; rfl
         refine one_ (i := 2) (N := some 41) #[t_,t_,t_,f_,f_] rfl rfl z8_ (by decide) (fun K hK => ?_); refine goes_ Tryz.func13 z8_ rfl #[.agg (⟨(.bool a0_0) :: (.slice Ao25 t296.length co25) :: Arr.arL .i8 a0_2⟩ : Array Value)] (by rfl) rfl rfl z1_ ?_; (with_reducible refine (impl_ValidHalf.calls k1 a0_0 _ _ t296 a0_2 t299 _ ?side1 ?side2 A15.out).mono ?_); (case side1 => repeat (first | exact (Kd.R_reads' HO298.out).2.2 | (with_reducible refine Kd.C_alloc ?_ _) | (with_reducible refine Kd.C_drewN ?_ _) | (with_reducible refine Kd.C_drew ?_))); (case side2 => exact (Kd.R_reads' HO298.out).2.1); rintro e w29 ⟨rfl, hb⟩; refine ⟨_, rfl, ?_⟩; replace HO295 := Aside0.mk (Kd.R_below z166_ hb); replace HO298 := Aside0.mk (Kd.R_below (by (with_reducible repeat (first | apply Kd.R_alloc | apply Kd.R_drewN | apply Kd.R_drew)); exact HO298.out) hb); replace BK287 := Aside0.mk (kb_ BK287 z65_ hb); replace BK288 := Aside0.mk (kb_ BK288 z59_ hb); replace HB := Aside0.mk (below_step z24_ hb); (try clear hb); refine hK.out _ _ (BK287.out) (fun hHeld => ?_); clear hK K; refine norm_ (a' := ?_) ?_ ?_; rotate_left
         ·show Act.put _ (some 41) _ = _; simp only [Act.put, List.setIfInBounds_toArray, List.set_cons_zero, List.set_cons_succ, i64_w, i32_w]; rfl
         refine last_ (i := 3) (N := none) #[t_,t_,t_,t_,f_] rfl rfl z8_ (by decide) (fun K hK => ?_); obtain ⟨w30, hw_, hbx, hg, hbe⟩ := Arr2.stored_row (g := gb288) (off := 0) (t := 29) (pre := []) (old := ((.bool false) :: (.slice none 0 0) :: Arr.arL .i8 (Vector.replicate 16 0 : Vector Int 16))) (m := ((.bool a0_0) :: (.slice Ao25 t296.length co25) :: Arr.arL .i8 a0_2)) (show w29.heap[gb288]? = some (.cells (⟨(.bool false) :: (.slice none 0 0) :: Arr.arL .i8 (Vector.replicate 16 0 : Vector Int 16)⟩ : Array Value) 29 (0, 0)) from z59_) rfl z25_; refine skip_ (w1 := w30) (by rfl) rfl ?_ ?_
         ·rw [← hw_]; exact Arr2.exec_store (T := 29) (p := 6) rfl z152_ z152_ (t := 29) (pre := []) (old := ((.bool false) :: (.slice none 0 0) :: Arr.arL .i8 (Vector.replicate 16 0 : Vector Int 16))) (show w29.heap[gb288]? = some (.cells (⟨(.bool false) :: (.slice none 0 0) :: Arr.arL .i8 (Vector.replicate 16 0 : Vector Int 16)⟩ : Array Value) 29 (0, 0)) from z59_) rfl z25_ (n := 18) z8_ z25_ (Arr.ones_2 rfl rfl)
         clear hw_; replace hbx : w30.heap[gb288]? = some (.cells (⟨(.bool a0_0) :: (.slice Ao25 t296.length co25) :: Arr.arL .i8 a0_2⟩ : Array Value) 29 (0, 0)) := hbx; replace BK287 := Aside0.mk (kg_ BK287 z65_ hg NB287_288); replace HO295 := Aside0.mk (Kd.R_grown1 z166_ rfl hg (Kd.R_ne HO295.out BK288.out (by decide))); replace HO298 := Aside0.mk (Kd.R_grown1 (by (with_reducible repeat (first | apply Kd.R_alloc | apply Kd.R_drewN | apply Kd.R_drew)); exact HO298.out) rfl hg (Kd.R_ne HO298.out BK288.out (by decide))); replace BK288 := Aside0.mk (hbx); replace HB := Aside0.mk (hbe _ _ z24_ GE288.out); (try clear hbx hg hbe); refine hK.out _ _ ?_; clear hK K; refine pure_ (i := 4) (N := some 7) (v := ?_) (a' := ?_) #[t_,t_,t_,t_,t_] rfl rfl z8_ (fun _ _ _ h => h) (Or.inl ⟨by rfl, ?_⟩) ?_ ?_; rotate_left
         ·intro w'; go_simp; with_reducible rfl
         rotate_left
         ·simp only [Act.put, List.setIfInBounds_toArray, List.set_cons_zero, List.set_cons_succ, i64_w, i32_w]; rfl
         refine done_ z8_ ?_; (try go_wp2); refine bodyPost_ret (results_ct rfl _ _ gb288 29 (⟨(.bool a0_0) :: (.slice Ao25 t296.length co25) :: Arr.arL .i8 a0_2⟩ : Array Value) (0, 0) _ rfl z59_ Tryz.underlying29 rfl z54_) rfl ?_; exact ⟨_, z6_, by (with_reducible repeat (first | apply Kd.R_alloc | apply Kd.R_drewN | apply Kd.R_drew)); exact Kd.R_mono HO298.out (fun _ hk => trivial), z24_⟩
       ·rw [if_neg c7] at H; exact absurd H (by simp)
      ·rw [if_neg c6] at H; have c6b0 : decide (x8_1 < (l0_1.length : Int)) = false := decide_eq_false c6; clear c6; replace H := Option.bind_eq_some_iff.mp H; obtain ⟨t300, A310, H⟩ := H;  have A31 := Aside0.mk A310; clear A310; obtain ⟨y303, hy303⟩ : ∃ y_ : List (S60), y_ = (([(⟨IntKind.i8.wrap (a1), IntKind.i16.wrap (a2)⟩ : S60)] : List (S60))) := ⟨_, rfl⟩; (replace H : ((impl_Notch_60.f t300 x8_1 y303).bind fun t306 => ((impl_ValidHalf.f k1 a0_0 t306 a0_2).bind fun t309 => (some (a0_0, t306, a0_2, t309)))) = some (r1, r2, r3, r4) := by first | (rw [hy303]; with_reducible exact H) | (have H2_ := (Option.bind_some _ _).symm.trans H; rw [hy303]; with_reducible exact H2_) | (have H2_ := (Option.bind_some _ _).symm.trans H; with_reducible exact H2_) | with_reducible exact H | (rw [hy303]; exact H) | exact H); have Ny303 := Aside0.mk hy303; clear hy303; replace H := Option.bind_eq_some_iff.mp H; obtain ⟨t306, A320, H⟩ := H;  have A32 := Aside0.mk A320; clear A320; replace H := Option.bind_eq_some_iff.mp H; obtain ⟨t309, A350, H⟩ := H;  have A35 := Aside0.mk A350; clear A350; simp only [Option.some.injEq, Prod.mk.injEq] at H; obtain ⟨rfl, rfl, rfl, rfl⟩ := H; have hnb37 := NB287_288.out; have hnc37 := NB288_287.out; have hcz38_0 : wr.cell? ⟨gb287, 0, none⟩ = some (.bool a0_0) := (blk_cell BK287.out 0).trans rfl; have hcz38_1 : wr.cell? ⟨gb287, 1, none⟩ = some (.slice A0_1 l0_1.length c0_1) := (blk_cell BK287.out 1).trans rfl; have hfz38_0 := blk_frozen BK287.out 0; have hfz38_1 := blk_frozen BK287.out 1; (try go_wp2_with (first | ((with_reducible refine gate_callee (f := 61) rfl ?_); refine goesL_ (some 29) rfl rfl Tryz.func61 z8_ rfl #[.slice A0_1 l0_1.length c0_1] rfl z1_ ?_; (with_reducible refine (impl_Notch_61.calls _ _ l0_1 t300 _ ?side1 ?side2 A31.out).mono ?_); (case side1 => repeat (first | exact (Kd.C_below HR0_1.out HB.out) | (with_reducible refine Kd.C_alloc ?_ _) | (with_reducible refine Kd.C_drewN ?_ _) | (with_reducible refine Kd.C_drew ?_))); (case side2 => exact HC0_1.out); rintro e w39 ⟨v301, rfl, ho0, hb⟩; refine ⟨_, rfl, ?_⟩; have HO302 := Aside0.mk (Kd.R_lower ho0 (below_size z24_)); replace BK287 := Aside0.mk (kb_ BK287 z65_ hb); replace BK288 := Aside0.mk (kb_ BK288 z59_ hb); replace HB := Aside0.mk (below_step z24_ hb); (try clear hb); (try clear ho0)) | ((with_reducible refine gate_dst (N := 36) rfl ?_); refine Kd.R_lit k60 _ 60 ?hg (N := 36) ?hd (xs := ([(⟨IntKind.i8.wrap (a1), IntKind.i16.wrap (a2)⟩ : S60)] : List (S60))) (inner := [.int .i8 (IntKind.i8.wrap (a1)), .int .i16 (IntKind.i16.wrap (a2))]) (ok := fun _ => True) (okp := fun _ => True) ?hr ?hp (fun _ hk => hk) trivial (Below.refl _ _) (Nat.le_refl _) (by simp) ?_; (case hd => rfl); (case hg => rfl); (case hr => first | (go_simp; done) | (go_simp; rfl)); (case hp => exact (Reps.c2 (show Kd.M k60 _ _ _ (⟨IntKind.i8.wrap (a1), IntKind.i16.wrap (a2)⟩ : S60) [.int .i8 (IntKind.i8.wrap (a1)), .int .i16 (IntKind.i16.wrap (a2))] from (k60_mkM _ _ _ (⟨IntKind.i8.wrap (a1), IntKind.i16.wrap (a2)⟩ : S60) )) (Reps.none _ _))); intro v304 w40 ho41 hb hg_ hnew_; clear hg_ hnew_; (first | rw [← Ny303.out] at ho41 | (simp only [Int.reduceToNat] at ho41; rw [← Ny303.out] at ho41)); have HO305 := Aside0.mk (Kd.R_lower (Kd.R_new' ho41 (Kd.R_lt (by (with_reducible repeat (first | apply Kd.R_alloc | apply Kd.R_drewN | apply Kd.R_drew)); exact HO302.out))) (below_size z24_)); replace HO302 := Aside0.mk (Kd.R_elder' (by (with_reducible repeat (first | apply Kd.R_alloc | apply Kd.R_drewN | apply Kd.R_drew)); exact HO302.out) (Kd.R_base ho41) hb); replace BK287 := Aside0.mk (kb_ BK287 z65_ hb); replace BK288 := Aside0.mk (kb_ BK288 z59_ hb); replace HB := Aside0.mk (below_step z24_ hb); clear hb ho41; obtain ⟨Ao42, co42, eo42⟩ := Kd.R_slice HO302.out; subst eo42; obtain ⟨Ao43, co43, eo43⟩ := Kd.R_slice HO305.out; subst eo43) | ((with_reducible refine gate_callee (f := 60) rfl ?_); refine goesL_ (some 37) rfl rfl Tryz.func60 z8_ rfl #[.slice Ao42 t300.length co42, .int .i64 x8_1, .slice Ao43 y303.length co43] rfl z1_ ?_; (with_reducible refine (impl_Notch_60.calls (fun k_ => some k_ = (.slice Ao42 t300.length co42 : Value).ownBlock) (.slice Ao42 t300.length co42) t300 x8_1 _ _ y303 t306 w _ ?side1 ?side2 ?side3 ?side4 A32.out).mono ?_); (case side1 => repeat (first | (with_reducible first | exact HB.out | apply below_alloc | apply pw_below_drewN | apply below_drew1 | refine below_set ?_ GE287.out | refine below_set ?_ GE288.out) | exact HB.out)); (case side2 => exact Kd.R_tight rfl HO302.out); (case side3 => exact ⟨_, _, (HO305.out), (fun k_ hk_ hs_ => (hk_.2) hs_)⟩); (case side4 => exact (Kd.R_reads' HO305.out).2.1); rintro e w44 ⟨v307, rfl, ho0, hb, hkp⟩; refine ⟨_, rfl, ?_⟩; replace BK287 := Aside0.mk (blk_kept z65_ hkp (fun hs_ => (fun e_ => (Kd.R_ne HO302.out BK287.out (by decide)) e_) hs_)); replace BK288 := Aside0.mk (blk_kept z59_ hkp (fun hs_ => (fun e_ => (Kd.R_ne HO302.out BK288.out (by decide)) e_) hs_)); have HO308 := Aside0.mk (Kd.R_mono (ok' := fun k_ => some k_ ≠ (.slice Ao43 y303.length co43 : Value).ownBlock) ho0 (fun k_ hk_ => Or.elim hk_ (fun hs_ => fun e_ => (((HO305.out).1 k_ e_.symm).2) hs_) (fun hn_ => (Kd.fresh' (Kd.R_lt z165_) k_ hn_)))); replace HO305 := Aside0.mk (Kd.R_mono (ok' := fun k_ => some k_ ≠ (v307 : Value).ownBlock) (Kd.R_keptB (HO305.out) hkp (fun k_ hk_ hs_ => (hk_.2) hs_)) (fun k_ hk_ => fun e_ => Or.elim (ho0.1 k_ e_.symm) (fun hs_ => hk_.2.1 hs_) (fun hn_ => Nat.not_le.2 hk_.2.2 hn_))); replace HB := Aside0.mk (hb); clear HO302; (try clear hb); (try clear hkp); (try clear ho0); obtain ⟨Ao45, co45, eo45⟩ := Kd.R_slice HO308.out; subst eo45; have hcz46_0 : w44.cell? ⟨gb287, 0, none⟩ = some (.bool a0_0) := (blk_cell BK287.out 0).trans rfl; have hcz46_1 : w44.cell? ⟨gb287, 1, none⟩ = some (.slice A0_1 l0_1.length c0_1) := (blk_cell BK287.out 1).trans rfl; have hfz46_0 := blk_frozen BK287.out 0; have hfz46_1 := blk_frozen BK287.out 1))); have n0_ : Aside0 (Kd.R k60 60 (w44.setCell ⟨gb287, 1, none⟩ (.slice Ao45 t306.length co45)) w.heap.size (fun k_ => some k_ ≠ (.slice Ao45 t306.length co45 : Value).ownBlock) (.slice Ao43 y303.length co43) y303) := ⟨by (with_reducible repeat (first | apply Kd.R_alloc | apply Kd.R_drewN | apply Kd.R_drew)); exact Kd.R_mono (Kd.R_far (p := ⟨gb287, 1, none⟩) (Kd.R_types HO305.out BK287.out (by decide)) (fun _ hk => hk.2) (.slice Ao45 t306.length co45)) (fun _ hk => hk.1)⟩; have n1_ : Aside0 (Kd.R k60 60 (w44.setCell ⟨gb287, 1, none⟩ (.slice Ao45 t306.length co45)) w.heap.size (fun k_ => some k_ ≠ (.slice Ao43 y303.length co43 : Value).ownBlock) (.slice Ao45 t306.length co45) t306) := ⟨by (with_reducible repeat (first | apply Kd.R_alloc | apply Kd.R_drewN | apply Kd.R_drew)); exact Kd.R_mono (Kd.R_far (p := ⟨gb287, 1, none⟩) (Kd.R_types HO308.out BK287.out (by decide)) (fun _ hk => hk.2) (.slice Ao45 t306.length co45)) (fun _ hk => hk.1)⟩; have n2_ : Aside0 ((w44.setCell ⟨gb287, 1, none⟩ (.slice Ao45 t306.length co45)).heap[gb287]? = some (.cells (⟨(.bool a0_0) :: (.slice Ao45 t306.length co45) :: Arr.arL .i8 a0_2⟩ : Array Value) 29 (0, 0))) := ⟨by (with_reducible repeat (first | refine blk_drewN ?_ _ | refine blk_drew ?_ | refine blk_alloc ?_ _)); refine blk_put (cs := (⟨(.bool a0_0) :: (.slice A0_1 l0_1.length c0_1) :: Arr.arL .i8 a0_2⟩ : Array Value)) ?_ 1 _ rfl; (with_reducible repeat (first | refine blk_drewN ?_ _ | refine blk_drew ?_ | refine blk_alloc ?_ _)); exact BK287.out⟩; have n3_ : Aside0 ((w44.setCell ⟨gb287, 1, none⟩ (.slice Ao45 t306.length co45)).heap[gb288]? = some (.cells (⟨(.bool false) :: (.slice none 0 0) :: Arr.arL .i8 (Vector.replicate 16 0 : Vector Int 16)⟩ : Array Value) 29 (0, 0))) := ⟨by (with_reducible repeat (first | refine blk_drewN ?_ _ | refine blk_drew ?_ | refine blk_alloc ?_ _)); refine blk_far ?_ NB288_287.out _; (with_reducible repeat (first | refine blk_drewN ?_ _ | refine blk_drew ?_ | refine blk_alloc ?_ _)); exact BK288.out⟩; have n4_ : Aside0 (Below w.heap.size w (w44.setCell ⟨gb287, 1, none⟩ (.slice Ao45 t306.length co45))) := ⟨z24_⟩; (try clear HO305); (try clear HO308); (try clear BK287); (try clear BK288); (try clear HB); generalize (w44.setCell ⟨gb287, 1, none⟩ (.slice Ao45 t306.length co45)) = w47 at n0_ n1_ n2_ n3_ n4_ ⊢; have HO305 := n0_; have HO308 := n1_; have BK287 := n2_; have BK288 := n3_; have HB := n4_; clear n0_ n1_ n2_ n3_ n4_; replace HO305 := Aside0.mk (Kd.R_drew HO305.out); replace HO308 := Aside0.mk (Kd.R_drew HO308.out); replace BK287 := Aside0.mk (blk_drew BK287.out); replace BK288 := Aside0.mk (blk_drew BK288.out); replace HB := Aside0.mk (below_drew1 HB.out); refine start_ (n := 5) (S := fun w' => w'.heap[gb287]? = some (.cells (⟨(.bool a0_0) :: (.slice Ao45 t306.length co45) :: Arr.arL .i8 a0_2⟩ : Array Value) 29 (0, 0))) (ds := [3]) #[f_,f_,f_,f_,f_] z8_ rfl rfl (BK287.out) (fun hHeld => ?_); generalize w47.drew = w48 at HO305 HO308 BK287 BK288 HB hHeld ⊢; refine take_ (i := 0) (N := some 39) (v := ?_) (a' := ?_) #[t_,f_,f_,f_,f_] rfl rfl z8_ (fun _ _ _ h => h) (Or.inl ⟨by rfl, ?_⟩) hHeld ?_ ?_; rotate_left
       ·intro w' s0; refine Arr.exec_load (T := 29) (p := 3) (g := gb287) (off := 0) (t := 29) (l := ((.bool a0_0) :: (.slice Ao45 t306.length co45) :: Arr.arL .i8 a0_2)) (m := ((.bool a0_0) :: (.slice Ao45 t306.length co45) :: Arr.arL .i8 a0_2)) (fr := (0, 0)) (n := 18) ?_ ?_ s0 ?_ Tryz.underlying29 ?_ ?_ ?_
        ·rfl
        ·first | (go_simp; done) | rfl | (go_simp; rfl)
        ·rfl
        ·rfl
        ·kernel_rfl
        ·simp [Arr.arL_length]
       rotate_left
       ·simp only [Act.put, List.setIfInBounds_toArray, List.set_cons_zero, List.set_cons_succ, i64_w, i32_w]; rfl
       refine take_ (i := 1) (N := some 40) (v := ?_) (a' := ?_) #[t_,t_,f_,f_,f_] rfl rfl z8_ (fun _ _ _ h => h) (Or.inl ⟨by rfl, ?_⟩) hHeld ?_ ?_; rotate_left
       ·intro w' s0; refine Arr.exec_load (T := 29) (p := 3) (g := gb287) (off := 0) (t := 29) (l := ((.bool a0_0) :: (.slice Ao45 t306.length co45) :: Arr.arL .i8 a0_2)) (m := ((.bool a0_0) :: (.slice Ao45 t306.length co45) :: Arr.arL .i8 a0_2)) (fr := (0, 0)) (n := 18) ?_ ?_ s0 ?_ Tryz.underlying29 ?_ ?_ ?_
        ·rfl
        ·first | (go_simp; done) | rfl | (go_simp; rfl)
        ·rfl
        ·rfl
        ·kernel_rfl
        ·simp [Arr.arL_length]
       rotate_left
       ·simp only [Act.put, List.setIfInBounds_toArray, List.set_cons_zero, List.set_cons_succ, i64_w, i32_w]; rfl
       refine one_ (i := 2) (N := some 41) #[t_,t_,t_,f_,f_] rfl rfl z8_ (by decide) (fun K hK => ?_); refine goes_ Tryz.func13 z8_ rfl #[.agg (⟨(.bool a0_0) :: (.slice Ao45 t306.length co45) :: Arr.arL .i8 a0_2⟩ : Array Value)] (by rfl) rfl rfl z1_ ?_; (with_reducible refine (impl_ValidHalf.calls k1 a0_0 _ _ t306 a0_2 t309 _ ?side1 ?side2 A35.out).mono ?_); (case side1 => repeat (first | exact (Kd.R_reads' HO308.out).2.2 | (with_reducible refine Kd.C_alloc ?_ _) | (with_reducible refine Kd.C_drewN ?_ _) | (with_reducible refine Kd.C_drew ?_))); (case side2 => exact (Kd.R_reads' HO308.out).2.1); rintro e w49 ⟨rfl, hb⟩; refine ⟨_, rfl, ?_⟩; replace HO305 := Aside0.mk (Kd.R_below z165_ hb); replace HO308 := Aside0.mk (Kd.R_below (by (with_reducible repeat (first | apply Kd.R_alloc | apply Kd.R_drewN | apply Kd.R_drew)); exact HO308.out) hb); replace BK287 := Aside0.mk (kb_ BK287 z65_ hb); replace BK288 := Aside0.mk (kb_ BK288 z59_ hb); replace HB := Aside0.mk (below_step z24_ hb); (try clear hb); refine hK.out _ _ (BK287.out) (fun hHeld => ?_); clear hK K; refine norm_ (a' := ?_) ?_ ?_; rotate_left
       ·show Act.put _ (some 41) _ = _; simp only [Act.put, List.setIfInBounds_toArray, List.set_cons_zero, List.set_cons_succ, i64_w, i32_w]; rfl
       refine last_ (i := 3) (N := none) #[t_,t_,t_,t_,f_] rfl rfl z8_ (by decide) (fun K hK => ?_); obtain ⟨w50, hw_, hbx, hg, hbe⟩ := Arr2.stored_row (g := gb288) (off := 0) (t := 29) (pre := []) (old := ((.bool false) :: (.slice none 0 0) :: Arr.arL .i8 (Vector.replicate 16 0 : Vector Int 16))) (m := ((.bool a0_0) :: (.slice Ao45 t306.length co45) :: Arr.arL .i8 a0_2)) (show w49.heap[gb288]? = some (.cells (⟨(.bool false) :: (.slice none 0 0) :: Arr.arL .i8 (Vector.replicate 16 0 : Vector Int 16)⟩ : Array Value) 29 (0, 0)) from z59_) rfl z25_; refine skip_ (w1 := w50) (by rfl) rfl ?_ ?_
       ·rw [← hw_]; exact Arr2.exec_store (T := 29) (p := 6) rfl z152_ z152_ (t := 29) (pre := []) (old := ((.bool false) :: (.slice none 0 0) :: Arr.arL .i8 (Vector.replicate 16 0 : Vector Int 16))) (show w49.heap[gb288]? = some (.cells (⟨(.bool false) :: (.slice none 0 0) :: Arr.arL .i8 (Vector.replicate 16 0 : Vector Int 16)⟩ : Array Value) 29 (0, 0)) from z59_) rfl z25_ (n := 18) z8_ z25_ (Arr.ones_2 rfl rfl)
       clear hw_; replace hbx : w50.heap[gb288]? = some (.cells (⟨(.bool a0_0) :: (.slice Ao45 t306.length co45) :: Arr.arL .i8 a0_2⟩ : Array Value) 29 (0, 0)) := hbx; replace BK287 := Aside0.mk (kg_ BK287 z65_ hg NB287_288); replace HO305 := Aside0.mk (Kd.R_grown1 z165_ rfl hg (Kd.R_ne HO305.out BK288.out (by decide))); replace HO308 := Aside0.mk (Kd.R_grown1 (by (with_reducible repeat (first | apply Kd.R_alloc | apply Kd.R_drewN | apply Kd.R_drew)); exact HO308.out) rfl hg (Kd.R_ne HO308.out BK288.out (by decide))); replace BK288 := Aside0.mk (hbx); replace HB := Aside0.mk (hbe _ _ z24_ GE288.out); (try clear hbx hg hbe); refine hK.out _ _ ?_; clear hK K; refine pure_ (i := 4) (N := some 7) (v := ?_) (a' := ?_) #[t_,t_,t_,t_,t_] rfl rfl z8_ (fun _ _ _ h => h) (Or.inl ⟨by rfl, ?_⟩) ?_ ?_; rotate_left
       ·intro w'; go_simp; with_reducible rfl
       rotate_left
       ·simp only [Act.put, List.setIfInBounds_toArray, List.set_cons_zero, List.set_cons_succ, i64_w, i32_w]; rfl
       refine done_ z8_ ?_; (try go_wp2); refine bodyPost_ret (results_ct rfl _ _ gb288 29 (⟨(.bool a0_0) :: (.slice Ao45 t306.length co45) :: Arr.arL .i8 a0_2⟩ : Array Value) (0, 0) _ rfl z59_ Tryz.underlying29 rfl z54_) rfl ?_; exact ⟨_, z6_, by (with_reducible repeat (first | apply Kd.R_alloc | apply Kd.R_drewN | apply Kd.R_drew)); exact Kd.R_mono HO308.out (fun _ hk => trivial), z24_⟩

end Go.Proofs.YtcblnnfodpglaaaGreatDoor.MNotched
