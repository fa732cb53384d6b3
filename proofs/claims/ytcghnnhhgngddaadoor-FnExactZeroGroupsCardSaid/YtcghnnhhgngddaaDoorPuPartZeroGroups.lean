/- What partingOf and the model's groups come to. -/
import Derived.Test.YtcghnnhhgngddaaDoorMZeroGroupsx0
import Derived.Test.YtcghnnhhgngddaaDoorMZeroGroupsx1
import Derived.Test.YtcghnnhhgngddaaDoorMZeroGroupsx3
import Derived.Test.YtcghnnhhgngddaaDoorMZeroGroupsx4
import Derived.Test.YtcghnnhhgngddaaDoorEv
import Derived.Test.YtcghnnhhgngddaaDoorPuZeroZeroGroups
import Derived.Test.YtcghnnhhgngddaaDoorPuSubZeroGroups
import Derived.Test.YtcghnnhhgngddaaDoorPuOpnZeroGroups
import Derived.Test.YtcghnnhhgngddaaDoorPuSettleZeroGroups
import Derived.Test.YtcghnnhhgngddaaDoorPuBitNZeroGroups
import Derived.Test.YtcghnnhhgngddaaDoorPuTabsZeroGroups
namespace Go.Proofs.YtcghnnhhgngddaaDoor.PuPartZeroGroups
open Go.RowKit Go.Proofs.YtcghnnhhgngddaaDoor.MZeroGroups Go.Proofs.YtcghnnhhgngddaaDoorW.PrintWords Go.Proofs.YtcghnnhhgngddaaDoorW.PrintLast Go.Proofs.YtcghnnhhgngddaaDoorW.PrintMore Go.Proofs.YtcghnnhhgngddaaDoor.Evs Go.Proofs.YtcghnnhhgngddaaDoor.PuZeroZeroGroups Go.Proofs.YtcghnnhhgngddaaDoor.PuSubZeroGroups Go.Proofs.YtcghnnhhgngddaaDoor.PuOpnZeroGroups Go.Proofs.YtcghnnhhgngddaaDoor.PuBitNZeroGroups Go.Proofs.YtcghnnhhgngddaaDoor.PuTabsZeroGroups
open Go.Proofs.YtcghnnhhgngddaaDoor.PuSettleZeroGroups (g good good_of g_lt)
set_option linter.unusedVariables false
set_option linter.unusedSimpArgs false
def ints (l : List Nat) : List Int := l.map fun (i : Nat) => (i : Int)
def oi (x : List Int) (i : Nat) : List Nat := (List.range i).filter fun j => decide (g x j ≠ 0)
theorem oi_step (x : List Int) (i : Nat) : oi x (i + 1) = if g x i = 0 then oi x i else oi x i ++ [i] := by
  unfold oi
  rw [List.range_succ, List.filter_append]
  by_cases h : g x i = 0
  · rw [if_pos h, List.filter_cons, if_neg (show ¬ decide (g x i ≠ 0) = true from by rw [h]; decide), List.filter_nil, List.append_nil]
  · rw [if_neg h, List.filter_cons, if_pos (show decide (g x i ≠ 0) = true from decide_eq_true h), List.filter_nil]
theorem oi_all (x : List Int) : oi x x.length = opn x := rfl
theorem oi_len (x : List Int) (i : Nat) : (oi x i).length ≤ i := by
  have := List.length_filter_le (fun j => decide (g x j ≠ 0)) (List.range i)
  simpa [oi] using this
theorem ints_len (l : List Nat) : (ints l).length = l.length := by simp [ints]
theorem ints_snoc (l : List Nat) (i : Nat) : ints (l ++ [i]) = ints l ++ [(i : Int)] := by simp [ints]
theorem opn_len (x : List Int) : (opn x).length ≤ x.length := oi_len x x.length
theorem openS_ev (x : List Int) (hl : x.length ≤ 16) : Ev (fun k => spec_l02Open.f k x) (ints (opn x)) := by
  unfold spec_l02Open.f
  have key : ∀ (d i : Nat), x.length - i = d → i ≤ x.length → Ev (fun k => spec_l02Open.l0 k x (ints (oi x i)) (i : Int)) (ints (opn x)) := by
    intro d
    induction d with
    | zero =>
      intro i hd hi
      have : i = x.length := by omega
      subst this
      refine Ev.step (fun k => by simp only [spec_l02Open.l0]; rfl) (ev_neg (by omega) (Ev.now _))
    | succ d ih =>
      intro i hd hi
      have h2 := ih (i + 1) (by omega) (by omega)
      have hlen := oi_len x i
      rw [oi_step] at h2
      refine Ev.step (fun k => by simp only [spec_l02Open.l0]; rfl) (ev_pos (by omega) (ev_pos (by omega) ?_))
      rw [wrap_up (n := 16) (by omega) (by omega), show rd x (i : Int) = g x i from rfl]
      by_cases h : g x i = 0
      · rw [if_pos h] at h2; exact ev_pos h h2
      · rw [if_neg h, ints_snoc] at h2
        exact ev_neg h (ev_pos (by rw [ints_len]; omega) h2)
  exact key x.length 0 (by omega) (by omega)
theorem openI_ev (x : List Int) (hl : x.length ≤ 16) (R : List Int × List Int × List Int × Int) (hend : Ev (fun k => impl_partingOf.l0 k x x (x.length : Int) (x.length : Int) (ints (opn x))) R) : Ev (fun k => impl_partingOf.l0 k x x (x.length : Int) 0 ([] : List Int)) R := by
  have key : ∀ (d i : Nat), x.length - i = d → i ≤ x.length → Ev (fun k => impl_partingOf.l0 k x x (x.length : Int) (i : Int) (ints (oi x i))) R := by
    intro d
    induction d with
    | zero =>
      intro i hd hi
      have : i = x.length := by omega
      subst this
      exact hend
    | succ d ih =>
      intro i hd hi
      have h2 := ih (i + 1) (by omega) (by omega)
      have hlen := oi_len x i
      rw [oi_step] at h2
      refine Ev.step (fun k => by simp only [impl_partingOf.l0]; rfl) (ev_pos (by omega) (ev_pos (by omega) (ev_pos (by omega) ?_)))
      rw [wrap_up (n := 16) (by omega) (by omega), show rd x (i : Int) = g x i from rfl]
      by_cases h : g x i = 0
      · rw [if_pos h] at h2; exact ev_pos h h2
      · rw [if_neg h, ints_snoc] at h2
        exact ev_neg h (ev_pos (by rw [ints_len]; omega) h2)
  exact key x.length 0 (by omega) (by omega)
/-- what is under way: the part that is looked at, and those that come -/
def cur (s p : Nat) : List Nat := if 0 < p then p :: subs s p else []
theorem cur_pos {s p : Nat} (h : 0 < p) : cur s p = p :: cur s (nx p s) := by
  unfold cur
  rw [if_pos h, subs, dif_pos h]
theorem cur_subs {s : Nat} (h : 0 < s) : subs s s = cur s (nx s s) := by
  rw [subs, dif_pos h]; rfl
theorem best_cons (c : Nat → Bool) (v : Nat → Int) (m : Int) (p : Nat) (l : List Nat) : best c v m (p :: l) = best c v (if c p = true then max m (v p) else m) l := rfl
theorem nx_and (p s : Nat) (hp : 0 < p) (h1 : p < 1048576) (h2 : s < 1048576) : Go.bits .and .i64 (wrap64 ((p : Int) - 1)) (s : Int) = ((nx p s : Nat) : Int) := by
  rw [wrap_id (by omega) (by omega), show (p : Int) - 1 = ((p - 1 : Nat) : Int) by omega, and_n _ _ (by omega) h2]
  rfl
theorem mx_max (a b : Int) : mx a b = max a b := by
  unfold mx; split <;> omega
theorem l2_ev (x vs : List Int) (N s : Nat) (R : List Int × List Int × List Int × Int) (who : List Int) (hs : s < N) (hN : N ≤ 1024) :
    ∀ (d p : Nat) (m : Int), p < d → Sb p s → p < s → 1 ≤ m → m ≤ s →
    Ev (fun k => impl_partingOf.l1 k x (N : Int) ((s + 1 : Nat) : Int) who (ftab (FS vs) N (s + 1)) ((ftab (FB vs) N s).set s (best (fun q => decide (sm vs q = 0)) (fun q => 1 + B vs (s - q)) m (cur s p)))) R →
    Ev (fun k => impl_partingOf.l2 k x (N : Int) (s : Int) (p : Int) who (ftab (FS vs) N (s + 1)) ((ftab (FB vs) N s).set s m)) R
  | 0, p, m, hd, _, _, _, _, _ => by omega
  | d + 1, p, m, hd, hp, hps, h1, h2, hend => by
    have lS := ft_len (FS vs) (show s + 1 ≤ N by omega)
    have lB := ft_len (FB vs) (show s ≤ N by omega)
    by_cases h0 : 0 < p
    · have hn := nx_lt (s := s) h0
      have hns : Sb (nx p s) s := Sb_and _ _
      have hb := B_bd vs (s + 1) (s - p) (by omega)
      rw [cur_pos h0, best_cons] at hend
      refine Ev.step (fun k => by simp only [impl_partingOf.l2]; rfl) (ev_pos (by omega) (ev_pos (by omega) (ev_pos (by rw [lS]; omega) ?_)))
      rw [ft_rd (FS vs) (show p < s + 1 by omega), FS_val, nx_and p s h0 (by omega) (by omega), andNot_n s p hp (by omega)]
      by_cases hz : sm vs p = 0
      · rw [decide_eq_true hz, if_pos rfl] at hend
        refine ev_pos hz (ev_pos (by omega) (ev_pos (by rw [List.length_set, lB]; omega) (ev_pos (by omega) (ev_pos (by rw [List.length_set, lB]; omega) ?_))))
        rw [rd_set_eq _ _ _ (by omega), rd_set_ne _ _ _ _ (by omega), ft_rd (FB vs) (show s - p < s by omega), show val (FB vs) (s - p) = B vs (s - p) from rfl, wrap_id (by omega) (by omega), mx_max, Int.toNat_natCast, List.set_set]
        exact l2_ev x vs N s R who hs hN d (nx p s) _ (by omega) hns (by omega) (by omega) (by omega) hend
      · rw [decide_eq_false hz, if_neg (by simp)] at hend
        exact ev_neg hz (l2_ev x vs N s R who hs hN d (nx p s) m (by omega) hns (by omega) h1 h2 hend)
    · have : p = 0 := by omega
      subst this
      refine Ev.step (fun k => by simp only [impl_partingOf.l2]; rfl) (ev_neg (by omega) ?_)
      rw [wrap_up (n := 1048576) (by omega) (by omega)]
      exact hend
theorem ints_rd (x : List Int) (k : Nat) (h : k < (opn x).length) : rd (ints (opn x)) (k : Int) = ((at_ x k : Nat) : Int) := by
  show (ints (opn x)).getD k 0 = _
  rw [at_get x k h]
  simp [ints, List.getD_eq_getElem?_getD, h]
theorem vals_at (x : List Int) (k : Nat) (h : k < (opn x).length) : (vals x).getD k 0 = g x (at_ x k) := by
  rw [at_get x k h]
  simp [vals, List.getD_eq_getElem?_getD, h]
theorem vals_len (x : List Int) : (vals x).length = (opn x).length := by simp [vals]
theorem vals_bd {x : List Int} (h : good x) : ∀ v ∈ vals x, -100000000 ≤ v ∧ v ≤ 100000000 := by
  intro v hv
  obtain ⟨j, hj, rfl⟩ := List.mem_map.1 hv
  have := (opn_mem x j).1 hj
  rw [g_lt x j this.1]
  exact h.2.2.1 _ (List.getElem_mem _)
theorem l1_ev (x : List Int) (h : good x) (hn : (opn x).length ≤ 10) : ∀ (d s : Nat), 2 ^ (opn x).length - s = d → 1 ≤ s → s ≤ 2 ^ (opn x).length →
    Ev (fun k => impl_partingOf.l1 k x ((2 ^ (opn x).length : Nat) : Int) (s : Int) (ints (opn x)) (ftab (FS (vals x)) (2 ^ (opn x).length) s) (ftab (FB (vals x)) (2 ^ (opn x).length) s))
      (ints (opn x), tab (FS (vals x)) (2 ^ (opn x).length), tab (FB (vals x)) (2 ^ (opn x).length), 0) := by
  have hN : 2 ^ (opn x).length ≤ 1024 := Nat.le_trans (Nat.pow_le_pow_right (by omega) hn) (by decide)
  have vl := vals_len x
  intro d
  induction d with
  | zero =>
    intro s hd h1 hs
    have : s = 2 ^ (opn x).length := by omega
    subst this
    refine Ev.step (fun k => by simp only [impl_partingOf.l1]; rfl) (ev_neg (by omega) (ev_eq (Ev.now _) ?_))
    unfold ftab
    rw [Nat.sub_self]
    simp
  | succ d ih =>
    intro s hd h1 hs
    have h2 := ih (s + 1) (by omega) (by omega) (by omega)
    generalize hNe : 2 ^ (opn x).length = N at *
    have lS := ft_len (FS (vals x)) (show s ≤ N by omega)
    have lB := ft_len (FB (vals x)) (show s ≤ N by omega)
    have lo := low_sum (vals x) 64 s (by omega) (by rw [vl, hNe]; omega) (by omega)
    rw [low_ctz, vl] at lo
    have hand := Nat.and_le_right (n := s) (m := s - 1)
    have b1 := sm_bd (vals x) (s &&& (s - 1)) (vals_bd h)
    have b2 := sm_bd (vals x) s (vals_bd h)
    rw [vl] at b1 b2
    have hctz : Lib.ctz 64 s = Lib.ctzFrom 64 s := by unfold Lib.ctz; rw [if_neg (by omega)]
    generalize hT : Lib.ctzFrom 64 s = T at lo hctz
    have ha := at_mem x T lo.1
    have ha := (opn_mem x _).1 ha
    have h16 := h.2.1
    refine Ev.step (fun k => by simp only [impl_partingOf.l1]; rfl) (ev_pos (by omega) ?_)
    refine ev_bind0 (a := (T : Int)) ?_ ?_
    · unfold bits_TrailingZeros.f
      rw [IntKind.wrap_u64, show (s : Int) % 18446744073709551616 = (s : Int) by omega, if_pos ⟨by omega, by omega⟩, Int.toNat_natCast, hctz]
    have eand : Go.bits .and .i64 (s : Int) (wrap64 ((s : Int) - 1)) = ((s &&& (s - 1) : Nat) : Int) := by
      rw [wrap_id (by omega) (by omega), show (s : Int) - 1 = ((s - 1 : Nat) : Int) by omega, and_n _ _ (by omega) (by omega)]
    rw [eand, ints_len, ints_rd x T lo.1, lS, nx_and s s (by omega) (by omega) (by omega)]
    refine ev_pos (by omega) (ev_pos (by omega) (ev_pos (by omega) (ev_pos (by omega) (ev_pos (by omega) (ev_pos (by omega) (ev_pos (by omega) (ev_pos (by omega) ?_)))))))
    rw [ft_rd (FS (vals x)) (show s &&& (s - 1) < s by omega), FS_val, show rd x ((at_ x T : Nat) : Int) = g x (at_ x T) from rfl, ← vals_at x T lo.1, ← lo.2, wrap_id (by omega) (by omega), Int.toNat_natCast]
    have eS : (ftab (FS (vals x)) N s).set s (sm (vals x) s) = ftab (FS (vals x)) N (s + 1) := by
      have := ft_set (FS_low (vals x)) (show s < N by omega)
      rw [FS_val] at this
      exact this
    rw [eS]
    refine ev_bind0 rfl ?_
    rw [wrap_up (n := 1048576) (by omega) (by omega)]
    by_cases hz : sm (vals x) s = 0
    · refine ev_pos hz (ev_pos (by rw [lB]; omega) ?_)
      have hnl := nx_lt (s := s) (p := s) (by omega)
      refine l2_ev x (vals x) N s _ _ (by omega) hN (s + 1) (nx s s) 1 (by omega) (Sb_and _ _) (by omega) (by omega) (by omega) ?_
      rw [← cur_subs (by omega), ← B_yes (vals x) (by omega) hz, show B (vals x) s = val (FB (vals x)) s from rfl, ft_set (FB_low (vals x)) (by omega)]
      exact h2
    · refine ev_neg hz ?_
      rw [ft_skip (FB_low (vals x)) (show s < N by omega) (B_no (vals x) hz)]
      exact h2
def partR (x : List Int) : List Int × List Int × List Int × Int :=
  if nets0 x = true then (if (opn x).length ≤ 10 then (ints (opn x), tab (FS (vals x)) (2 ^ (opn x).length), tab (FB (vals x)) (2 ^ (opn x).length), 0) else ([], [], [], 3)) else ([], [], [], 1)
theorem part_ev (x : List Int) (hl : x.length ≤ maxLen) : Ev (fun k => impl_partingOf.f k x) (partR x) := by
  unfold impl_partingOf.f partR
  refine Ev.bind (ZeroI_ev x hl) ?_
  by_cases h0 : nets0 x = true
  · refine ev_pos h0 ?_
    rw [if_pos h0]
    have hg := good_of h0
    have h16 := hg.2.1
    refine openI_ev x h16 _ ?_
    refine Ev.step (fun k => by simp only [impl_partingOf.l0]; rfl) (ev_neg (by omega) ?_)
    rw [ints_len]
    by_cases h10 : (opn x).length ≤ 10
    · rw [if_pos h10, shl_n _ h10, Int.toNat_natCast]
      have hN : 2 ^ (opn x).length ≤ 1024 := Nat.le_trans (Nat.pow_le_pow_right (by omega) h10) (by decide)
      have hp := Nat.two_pow_pos (opn x).length
      refine ev_neg (by omega) (ev_pos (by omega) (ev_pos (by omega) ?_))
      have := l1_ev x hg h10 _ 1 rfl (by omega) (by omega)
      rw [← ft_first (F := FS (vals x)) (by rw [FS_val]; exact sm_zero _) hp, ← ft_first (F := FB (vals x)) (B_zero _) hp] at this
      exact this
    · rw [if_neg h10]
      exact ev_pos (by omega) (Ev.now _)
  · rw [if_neg h0]
    exact ev_neg h0 (Ev.now _)
end Go.Proofs.YtcghnnhhgngddaaDoor.PuPartZeroGroups
