/- What the model's groups come to. -/
import Derived.Test.YtcghnnhhgngddaaDoorMZeroGroupsx0
import Derived.Test.YtcghnnhhgngddaaDoorMZeroGroupsx1
import Derived.Test.YtcghnnhhgngddaaDoorMZeroGroupsx2
import Derived.Test.YtcghnnhhgngddaaDoorEv
import Derived.Test.YtcghnnhhgngddaaDoorPuSubZeroGroups
import Derived.Test.YtcghnnhhgngddaaDoorPuOpnZeroGroups
import Derived.Test.YtcghnnhhgngddaaDoorPuSettleZeroGroups
import Derived.Test.YtcghnnhhgngddaaDoorPuBitNZeroGroups
import Derived.Test.YtcghnnhhgngddaaDoorPuTabsZeroGroups
import Derived.Test.YtcghnnhhgngddaaDoorPuPartZeroGroups
namespace Go.Proofs.YtcghnnhhgngddaaDoor.PuGroupsZeroGroups
open Go.RowKit Go.Proofs.YtcghnnhhgngddaaDoor.MZeroGroups Go.Proofs.YtcghnnhhgngddaaDoorW.PrintWords Go.Proofs.YtcghnnhhgngddaaDoorW.PrintLast Go.Proofs.YtcghnnhhgngddaaDoorW.PrintMore Go.Proofs.YtcghnnhhgngddaaDoor.Evs Go.Proofs.YtcghnnhhgngddaaDoor.PuSubZeroGroups Go.Proofs.YtcghnnhhgngddaaDoor.PuOpnZeroGroups Go.Proofs.YtcghnnhhgngddaaDoor.PuBitNZeroGroups Go.Proofs.YtcghnnhhgngddaaDoor.PuTabsZeroGroups Go.Proofs.YtcghnnhhgngddaaDoor.PuPartZeroGroups
open Go.Proofs.YtcghnnhhgngddaaDoor.PuSettleZeroGroups (g good g_lt)
set_option linter.unusedVariables false
set_option linter.unusedSimpArgs false
theorem l00Max_f (a b : Int) : spec_l00Max.f a b = some (max a b) := by
  unfold spec_l00Max.f
  split
  · rw [show max a b = a by omega]
  · rw [show max a b = b by omega]
theorem l3_ev (x o : List Int) (vs : List Int) (n N s : Nat) (R : List Int) (hs : s < N) (hN : N ≤ 1024) :
    ∀ (d p : Nat) (m : Int), p < d → Sb p s → p < s → 1 ≤ m → m ≤ s →
    Ev (fun k => spec_l02Groups.l1 k x o (n : Int) (N : Int) ((ftab (FG vs) N s).set s (best (fun q => decide (0 < G vs q ∧ 0 < G vs (s - q))) (fun q => G vs q + G vs (s - q)) m (cur s p))) ((s + 1 : Nat) : Int)) R →
    Ev (fun k => spec_l02Groups.l3 k x o (n : Int) (N : Int) ((ftab (FG vs) N s).set s m) (s : Int) (p : Int)) R
  | 0, p, m, hd, _, _, _, _, _ => by omega
  | d + 1, p, m, hd, hp, hps, h1, h2, hend => by
    have lG := ft_len (FG vs) (show s ≤ N by omega)
    by_cases h0 : 0 < p
    · have hn := nx_lt (s := s) h0
      have hns : Sb (nx p s) s := Sb_and _ _
      have hb1 := G_bd vs (s + 1) (s - p) (by omega)
      have hb2 := G_bd vs (s + 1) p (by omega)
      rw [cur_pos h0, best_cons] at hend
      refine Ev.step (fun k => by simp only [spec_l02Groups.l3]; rfl) (ev_pos (by omega) (ev_pos (by omega) (ev_pos (by rw [List.length_set, lG]; omega) ?_)))
      have es : wrap64 ((s : Int) - (p : Int)) = ((s - p : Nat) : Int) := by rw [wrap_id (by omega) (by omega)]; omega
      rw [rd_set_ne _ _ _ _ (by omega), ft_rd (FG vs) (show p < s by omega), show val (FG vs) p = G vs p from rfl, nx_and p s h0 (by omega) (by omega), es]
      have next : ∀ m' : Int, 1 ≤ m' → m' ≤ s → Ev (fun k => spec_l02Groups.l1 k x o (n : Int) (N : Int) ((ftab (FG vs) N s).set s (best (fun q => decide (0 < G vs q ∧ 0 < G vs (s - q))) (fun q => G vs q + G vs (s - q)) m' (cur s (nx p s)))) ((s + 1 : Nat) : Int)) R →
          Ev (fun k => spec_l02Groups.l3 k x o (n : Int) (N : Int) ((ftab (FG vs) N s).set s m') (s : Int) ((nx p s : Nat) : Int)) R := fun m' a b c => l3_ev x o vs n N s R hs hN d (nx p s) m' (by omega) hns (by omega) a b c
      by_cases hz : 0 < G vs p
      · refine ev_pos (by omega) (ev_pos (by omega) (ev_pos (by rw [List.length_set, lG]; omega) ?_))
        rw [rd_set_ne _ _ _ _ (by omega), ft_rd (FG vs) (show s - p < s by omega), show val (FG vs) (s - p) = G vs (s - p) from rfl]
        by_cases hz2 : 0 < G vs (s - p)
        · rw [decide_eq_true ⟨hz, hz2⟩, if_pos rfl] at hend
          refine ev_pos (by omega) (ev_pos (by omega) (ev_pos (by rw [List.length_set, lG]; omega) ?_))
          rw [rd_set_eq _ _ _ (by omega), l00Max_f, wrap_id (by omega) (by omega)]
          refine ev_bind0 rfl ?_
          rw [Int.toNat_natCast, List.set_set]
          exact next _ (by omega) (by omega) hend
        · rw [decide_eq_false (fun h => hz2 h.2), if_neg (by simp)] at hend
          exact ev_neg (by omega) (next m h1 h2 hend)
      · rw [decide_eq_false (fun h => hz h.1), if_neg (by simp)] at hend
        exact ev_neg (by omega) (next m h1 h2 hend)
    · have : p = 0 := by omega
      subst this
      refine Ev.step (fun k => by simp only [spec_l02Groups.l3]; rfl) (ev_neg (by omega) ?_)
      rw [wrap_up (n := 1048576) (by omega) (by omega)]
      exact hend
theorem gl2_ev (x : List Int) (h : good x) (hn : (opn x).length ≤ 10) (N s : Nat) (T R : List Int) (hend : Ev (fun k => spec_l02Groups.l2 k x (ints (opn x)) ((opn x).length : Int) (N : Int) T (s : Int) (sm (vals x) s) ((opn x).length : Int)) R) :
    Ev (fun k => spec_l02Groups.l2 k x (ints (opn x)) ((opn x).length : Int) (N : Int) T (s : Int) 0 0) R := by
  have vl := vals_len x
  have h16 := h.2.1
  have key : ∀ (d i : Nat), (opn x).length - i = d → i ≤ (opn x).length → Ev (fun k => spec_l02Groups.l2 k x (ints (opn x)) ((opn x).length : Int) (N : Int) T (s : Int) (sm ((vals x).take i) s) (i : Int)) R := by
    intro d
    induction d with
    | zero =>
      intro i hd hi
      have : i = (opn x).length := by omega
      subst this
      rw [List.take_of_length_le (by omega)]
      exact hend
    | succ d ih =>
      intro i hd hi
      have h2 := ih (i + 1) (by omega) (by omega)
      have hlt : i < (opn x).length := by omega
      rw [sm_take _ _ _ (by omega)] at h2
      have bd := sm_bd ((vals x).take i) s (fun v hv => vals_bd h v (List.mem_of_mem_take hv))
      have tl : ((vals x).take i).length ≤ 10 := by rw [List.length_take]; omega
      have ha := (opn_mem x _).1 (at_mem x i hlt)
      have hv : -100000000 ≤ g x (at_ x i) ∧ g x (at_ x i) ≤ 100000000 := by
        rw [g_lt x _ ha.1]; exact h.2.2.1 _ (List.getElem_mem _)
      have hu : IntKind.u64.wrap (i : Int) = (i : Int) := u64_n i (by omega)
      refine Ev.step (fun k => by simp only [spec_l02Groups.l2]; rfl) (ev_pos (by omega) ?_)
      rw [hu, wrap_up (n := 1048576) (by omega) (by omega)]
      refine ev_pos (by omega) ?_
      by_cases hb : s.testBit i = true
      · rw [if_pos hb, vals_at x i hlt] at h2
        refine ev_pos ((odd_n s i (by omega)).2 hb) (ev_pos (by omega) (ev_pos (by rw [ints_len]; omega) ?_))
        rw [ints_rd x i hlt]
        refine ev_pos (by omega) (ev_pos (by omega) ?_)
        rw [show rd x ((at_ x i : Nat) : Int) = g x (at_ x i) from rfl, wrap_id (by omega) (by omega)]
        exact h2
      · rw [if_neg hb, Int.add_zero] at h2
        exact ev_neg (fun z => hb ((odd_n s i (by omega)).1 z)) h2
  exact key _ 0 rfl (by omega)
theorem gl1_ev (x : List Int) (h : good x) (hn : (opn x).length ≤ 10) : ∀ (d s : Nat), 2 ^ (opn x).length - s = d → 1 ≤ s → s ≤ 2 ^ (opn x).length →
    Ev (fun k => spec_l02Groups.l1 k x (ints (opn x)) ((opn x).length : Int) ((2 ^ (opn x).length : Nat) : Int) (ftab (FG (vals x)) (2 ^ (opn x).length) s) (s : Int)) (tab (FG (vals x)) (2 ^ (opn x).length)) := by
  have hN : 2 ^ (opn x).length ≤ 1024 := Nat.le_trans (Nat.pow_le_pow_right (by omega) hn) (by decide)
  intro d
  induction d with
  | zero =>
    intro s hd h1 hs
    have : s = 2 ^ (opn x).length := by omega
    subst this
    refine Ev.step (fun k => by simp only [spec_l02Groups.l1]; rfl) (ev_neg (by omega) (ev_eq (Ev.now _) ?_))
    unfold ftab
    rw [Nat.sub_self]
    simp
  | succ d ih =>
    intro s hd h1 hs
    have h2 := ih (s + 1) (by omega) (by omega) (by omega)
    generalize hNe : 2 ^ (opn x).length = N at *
    have lG := ft_len (FG (vals x)) (show s ≤ N by omega)
    refine Ev.step (fun k => by simp only [spec_l02Groups.l1]; rfl) (ev_pos (by omega) (gl2_ev x h hn N s _ _ ?_))
    refine Ev.step (fun k => by simp only [spec_l02Groups.l2]; rfl) (ev_neg (by omega) (ev_pos (by omega) (ev_pos (by rw [lG]; omega) (ev_bind0 rfl ?_))))
    rw [Int.toNat_natCast, nx_and s s (by omega) (by omega) (by omega)]
    by_cases hz : sm (vals x) s = 0
    · refine ev_pos hz ?_
      have hnl := nx_lt (s := s) (p := s) (by omega)
      rw [List.set_set]
      refine l3_ev x _ (vals x) (opn x).length N s _ (by omega) hN (s + 1) (nx s s) 1 (by omega) (Sb_and _ _) (by omega) (by omega) (by omega) ?_
      rw [← cur_subs (by omega), ← G_yes (vals x) (by omega) hz, show G (vals x) s = val (FG (vals x)) s from rfl, ft_set (FG_low (vals x)) (by omega)]
      exact h2
    · refine ev_neg hz ?_
      rw [wrap_up (n := 1048576) (by omega) (by omega)]
      have e : val (FG (vals x)) s = -1 := G_no (vals x) hz
      have := ft_set (FG_low (vals x)) (show s < N by omega)
      rw [e] at this
      rw [this]
      exact h2
theorem groups_ev (x : List Int) (h : good x) (hn : (opn x).length ≤ 10) : Ev (fun k => spec_l02Groups.f k x (ints (opn x))) (tab (FG (vals x)) (2 ^ (opn x).length)) := by
  have hN : 2 ^ (opn x).length ≤ 1024 := Nat.le_trans (Nat.pow_le_pow_right (by omega) hn) (by decide)
  unfold spec_l02Groups.f
  rw [ints_len]
  have key : ∀ (d i : Nat), (opn x).length - i = d → i ≤ (opn x).length → Ev (fun k => spec_l02Groups.l0 k x (ints (opn x)) ((opn x).length : Int) ((2 ^ i : Nat) : Int) (i : Int)) (tab (FG (vals x)) (2 ^ (opn x).length)) := by
    intro d
    induction d with
    | zero =>
      intro i hd hi
      have : i = (opn x).length := by omega
      subst this
      have hp := Nat.two_pow_pos (opn x).length
      refine Ev.step (fun k => by simp only [spec_l02Groups.l0]; rfl) (ev_neg (by omega) (ev_pos (by omega) (ev_pos (by omega) ?_)))
      rw [Int.toNat_natCast, ft_first (F := FG (vals x)) (G_zero _) hp]
      exact gl1_ev x h hn _ 1 rfl (by omega) (by omega)
    | succ d ih =>
      intro i hd hi
      have h2 := ih (i + 1) (by omega) (by omega)
      have hp : 2 ^ i ≤ 1024 := Nat.le_trans (Nat.pow_le_pow_right (by omega) (by omega)) hN
      refine Ev.step (fun k => by simp only [spec_l02Groups.l0]; rfl) (ev_pos (by omega) ?_)
      have e2 : wrap64 (2 * ((2 ^ i : Nat) : Int)) = ((2 ^ (i + 1) : Nat) : Int) := by
        rw [Nat.pow_succ]
        generalize 2 ^ i = q at hp ⊢
        rw [wrap_id (by omega) (by omega)]
        omega
      rw [wrap_up (n := 1048576) (by omega) (by omega), e2]
      exact h2
  exact key _ 0 rfl (by omega)
end Go.Proofs.YtcghnnhhgngddaaDoor.PuGroupsZeroGroups
