/- Small tables: their debts, and what each one gets in all. -/
import Derived.Test.YtofcgkcpkngocaaMCirclesx0
import Derived.Test.YtofcgkcpkngocaaVCirclesEv
import Derived.Test.YtofcgkcpkngocaaVCirclesArr
import Derived.Test.YtofcgkcpkngocaaPuDebtCircles
import Derived.Test.YtofcgkcpkngocaaPuTableCircles
import Derived.Test.YtofcgkcpkngocaaPuTableLCircles
import Derived.Test.YtofcgkcpkngocaaPuSumNetsCircles
namespace Go.Proofs.Ytofcgkcpkngocaa.PuTab2Circles
open Go.RowKit MCircles Go.Proofs.YtofcgkcpkngocaaW.PrintWords Go.Proofs.YtofcgkcpkngocaaW.PrintLast Go.Proofs.YtofcgkcpkngocaaW.PrintMore Evs PuDebtCircles PuTableCircles PuTableLCircles
open PuSumNetsCircles (netsW netW netsW_length netW_length)
set_option linter.unusedVariables false
set_option linter.unusedSimpArgs false
def tabOk (p : Nat) (B : Int) (t : Tb) : Prop := ∀ a b, a < 16 → b < 16 → 0 ≤ tg t a b ∧ tg t a b ≤ B ∧ (0 < tg t a b → a < p ∧ b < p ∧ a ≠ b)
def smallD (p : Nat) (m : Int) (d : D) : Prop := 0 ≤ d.f0 ∧ d.f0 < p ∧ 0 ≤ d.f1 ∧ d.f1 < p ∧ d.f0 ≠ d.f1 ∧ 1 ≤ d.f2 ∧ d.f2 ≤ m
theorem tg_put (t : Tb) (i k : Int) (y : Int) (hi : 0 ≤ i ∧ i < 16) (hk : 0 ≤ k ∧ k < 16) (a b : Nat) (ha : a < 16) (hb : b < 16) : tg (Arr.vst2 16 t i k y) a b = if a = i.toNat ∧ b = k.toNat then y else tg t a b := by
  have e : Arr.vst2 16 t i k y = Arr.vst2 16 t ((i.toNat : Nat) : Int) ((k.toNat : Nat) : Int) y := by
    rw [show ((i.toNat : Nat) : Int) = i by omega, show ((k.toNat : Nat) : Int) = k by omega]
  rw [e, tg_set t _ _ a b _ o_ o_ hb ha]
theorem add_tg {p : Nat} {B m : Int} {t : Tb} (h : tabOk p B t) (hp : p ≤ 16) (hB : B + m ≤ 1000000000000) (hB0 : 0 ≤ B) (d : D) (hd : smallD p m d) (a b : Nat) (ha : a < 16) (hb : b < 16) :
    tg (addT t d) a b = if a = d.f0.toNat ∧ b = d.f1.toNat then tg t a b + d.f2 else tg t a b := by
  obtain ⟨h0, h1, h2, h3, h4, h5, h6⟩ := hd
  have h7 := h d.f0.toNat d.f1.toNat o_ o_
  unfold addT
  rw [tg_put t _ _ _ ⟨h0, by omega⟩ ⟨h2, by omega⟩ a b ha hb, vrd2_n, wrap_id o_ o_]
  by_cases hc : a = d.f0.toNat ∧ b = d.f1.toNat
  · rw [if_pos hc, if_pos hc, hc.1, hc.2]
  · rw [if_neg hc, if_neg hc]
theorem add_ok {p : Nat} {B m : Int} {t : Tb} (h : tabOk p B t) (hp : p ≤ 16) (hB : B + m ≤ 1000000000000) (hB0 : 0 ≤ B) (d : D) (hd : smallD p m d) : tabOk p (B + m) (addT t d) := by
  intro a b ha hb
  have h7 := h a b ha hb
  rw [add_tg h hp hB hB0 d hd a b ha hb]
  obtain ⟨h0, h1, h2, h3, h4, h5, h6⟩ := hd
  split
  · next hc => exact ⟨by omega, by omega, fun _ => by omega⟩
  · exact ⟨h7.1, by omega, h7.2.2⟩
def rowS (t : Tb) (q : Nat) : Nat → Int
  | 0 => 0
  | n + 1 => rowS t q n + tg t q n
def colS (t : Tb) (q : Nat) : Nat → Int
  | 0 => 0
  | n + 1 => colS t q n + tg t n q
def netT (t : Tb) (q : Nat) : Int := colS t q 16 - rowS t q 16
theorem rowS_upd {t u : Tb} {q x y : Nat} {c : Int} (h : ∀ b, b < 16 → tg u q b = tg t q b + (if q = x ∧ b = y then c else 0)) : ∀ n, n ≤ 16 → rowS u q n = rowS t q n + (if q = x ∧ y < n then c else 0)
  | 0, _ => by simp [rowS]
  | n + 1, hn => by
    have h1 := rowS_upd h n o_
    have h2 := h n o_
    unfold rowS
    rw [h1, h2]
    by_cases hq : q = x
    · by_cases hy : n = y
      · rw [if_neg o_, if_pos ⟨hq, hy⟩, if_pos ⟨hq, by omega⟩]; omega
      · rw [if_neg (c := q = x ∧ n = y) (fun z => hy z.2)]
        by_cases hl : y < n
        · rw [if_pos ⟨hq, hl⟩, if_pos ⟨hq, by omega⟩]; omega
        · rw [if_neg (fun z => hl z.2), if_neg o_]; omega
    · rw [if_neg (fun z => hq z.1), if_neg (fun z => hq z.1), if_neg (fun z => hq z.1)]; omega
theorem colS_upd {t u : Tb} {q x y : Nat} {c : Int} (h : ∀ a, a < 16 → tg u a q = tg t a q + (if a = x ∧ q = y then c else 0)) : ∀ n, n ≤ 16 → colS u q n = colS t q n + (if q = y ∧ x < n then c else 0)
  | 0, _ => by simp [colS]
  | n + 1, hn => by
    have h1 := colS_upd h n o_
    have h2 := h n o_
    unfold colS
    rw [h1, h2]
    by_cases hq : q = y
    · by_cases hy : n = x
      · rw [if_neg o_, if_pos ⟨hy, hq⟩, if_pos ⟨hq, by omega⟩]; omega
      · rw [if_neg (c := n = x ∧ q = y) (fun z => hy z.1)]
        by_cases hl : x < n
        · rw [if_pos ⟨hq, hl⟩, if_pos ⟨hq, by omega⟩]; omega
        · rw [if_neg (fun z => hl z.2), if_neg o_]; omega
    · rw [if_neg (fun z => hq z.1), if_neg (fun z => hq z.2), if_neg (fun z => hq z.1)]; omega
theorem netT_upd {t u : Tb} {x y : Nat} {c : Int} (hx : x < 16) (hy : y < 16) (h : ∀ a b, a < 16 → b < 16 → tg u a b = tg t a b + (if a = x ∧ b = y then c else 0)) (q : Nat) (hq : q < 16) : netT u q = netT t q + (if q = y then c else 0) - (if q = x then c else 0) := by
  unfold netT
  rw [rowS_upd (fun b hb => h q b hq hb) 16 (Nat.le_refl _), colS_upd (fun a ha => h a q ha hq) 16 (Nat.le_refl _)]
  by_cases h1 : q = x
  · by_cases h2 : q = y
    · rw [if_pos ⟨h2, hx⟩, if_pos ⟨h1, hy⟩, if_pos h2, if_pos h1]; omega
    · rw [if_neg (fun z => h2 z.1), if_pos ⟨h1, hy⟩, if_neg h2, if_pos h1]; omega
  · by_cases h2 : q = y
    · rw [if_pos ⟨h2, hx⟩, if_neg (fun z => h1 z.1), if_pos h2, if_neg h1]; omega
    · rw [if_neg (fun z => h2 z.1), if_neg (fun z => h1 z.1), if_neg h2, if_neg h1]; omega
theorem rowS_bd {p : Nat} {B : Int} {t : Tb} (h : tabOk p B t) (q : Nat) (hq : q < 16) : ∀ n, n ≤ 16 → 0 ≤ rowS t q n ∧ rowS t q n ≤ n * B
  | 0, _ => by simp [rowS]
  | n + 1, hn => by
    have h1 := rowS_bd h q hq n o_
    have h2 := h q n hq o_
    have e3 : ((n + 1 : Nat) : Int) * B = (n : Int) * B + B := by
      rw [show ((n + 1 : Nat) : Int) = (n : Int) + 1 by omega, Int.add_mul, Int.one_mul]
    unfold rowS; omega
theorem colS_bd {p : Nat} {B : Int} {t : Tb} (h : tabOk p B t) (q : Nat) (hq : q < 16) : ∀ n, n ≤ 16 → 0 ≤ colS t q n ∧ colS t q n ≤ n * B
  | 0, _ => by simp [colS]
  | n + 1, hn => by
    have h1 := colS_bd h q hq n o_
    have h2 := h n q o_ hq
    have e3 : ((n + 1 : Nat) : Int) * B = (n : Int) * B + B := by
      rw [show ((n + 1 : Nat) : Int) = (n : Int) + 1 by omega, Int.add_mul, Int.one_mul]
    unfold colS; omega
theorem getD_set (x : List Int) (i k : Nat) (y : Int) (h : i < x.length) : (x.set i y).getD k 0 = if k = i then y else x.getD k 0 := by
  rw [List.getD_eq_getElem?_getD, List.getD_eq_getElem?_getD, List.getElem?_set]
  by_cases e : k = i
  · rw [if_pos e.symm, if_pos h, if_pos e]; rfl
  · rw [if_neg (fun z => e z.symm), if_neg e]
def holds (p : Nat) (t : Tb) (x : List Int) : Prop := x.length = p ∧ ∀ i, i < p → x.getD i 0 = netT t i
theorem nets_step {p : Nat} {B m : Int} {t : Tb} {x : List Int} (h : tabOk p B t) (hp : p ≤ 16) (hB : B + m ≤ 100000000000) (hB0 : 0 ≤ B) (hx : holds p t x) (d : D) (hd : smallD p m d) : holds p (addT t d) (netW x d) := by
  have htg := add_tg h hp o_ hB0 d hd
  obtain ⟨h0, h1, h2, h3, h4, h5, h6⟩ := hd
  refine ⟨by rw [netW_length]; exact hx.1, fun i hi => ?_⟩
  have hu := netT_upd (t := t) (u := addT t d) (x := d.f0.toNat) (y := d.f1.toNat) (c := d.f2) o_ o_ (fun a b ha hb => by
    rw [htg a b ha hb]
    by_cases hc : a = d.f0.toNat ∧ b = d.f1.toNat
    · rw [if_pos hc, if_pos hc]
    · rw [if_neg hc, if_neg hc]; omega) i o_
  have b1 : ∀ j, j < p → -(1600000000000) ≤ x.getD j 0 ∧ x.getD j 0 ≤ 1600000000000 := by
    intro j hj
    have r1 := rowS_bd h j o_ 16 (Nat.le_refl _)
    have r2 := colS_bd h j o_ 16 (Nat.le_refl _)
    have r3 := hx.2 j hj
    unfold netT at r3
    omega
  have e0 : rd x d.f0 = x.getD d.f0.toNat 0 := rfl
  have b0 := b1 d.f0.toNat o_
  have bb1 := b1 d.f1.toNat o_
  have e1 : rd (x.set d.f0.toNat (wrap64 (rd x d.f0 - d.f2))) d.f1 = x.getD d.f1.toNat 0 := by
    show (x.set d.f0.toNat _).getD d.f1.toNat 0 = _
    rw [getD_set x _ _ _ (by rw [hx.1]; omega), if_neg o_]
  unfold netW
  rw [e1, e0, getD_set _ _ _ _ (by rw [List.length_set, hx.1]; omega), getD_set x _ _ _ (by rw [hx.1]; omega), wrap_id (x := x.getD d.f0.toNat 0 - d.f2) o_ o_, wrap_id o_ o_]
  by_cases c1 : i = d.f1.toNat
  · have c0 : ¬ i = d.f0.toNat := by omega
    rw [if_pos c1, if_neg c0] at hu
    rw [if_pos c1]
    have h7 := hx.2 i hi
    rw [c1] at h7 hu ⊢
    omega
  · rw [if_neg c1] at hu ⊢
    by_cases c0 : i = d.f0.toNat
    · rw [if_pos c0] at hu ⊢
      have h7 := hx.2 i hi
      rw [c0] at h7 hu ⊢
      omega
    · rw [if_neg c0] at hu ⊢
      have h7 := hx.2 i hi
      omega
theorem fold_both {p : Nat} {m : Int} (hp : p ≤ 16) (hm : 0 ≤ m) : ∀ (l : List D) (t : Tb) (x : List Int) (B : Int), tabOk p B t → 0 ≤ B → B + l.length * m ≤ 100000000000 → holds p t x → (∀ d ∈ l, smallD p m d) → tabOk p (B + l.length * m) (l.foldl addT t) ∧ holds p (l.foldl addT t) (l.foldl netW x)
  | [], t, x, B, h, _, _, hx, _ => ⟨by simpa using h, hx⟩
  | d :: l, t, x, B, h, hB0, hB, hx, hd => by
    have hd0 := hd d (List.mem_cons_self ..)
    have e3 : ((l.length + 1 : Nat) : Int) * m = (l.length : Int) * m + m := by
      rw [show ((l.length + 1 : Nat) : Int) = (l.length : Int) + 1 by omega, Int.add_mul, Int.one_mul]
    rw [List.length_cons, e3] at hB ⊢
    have hl0 : 0 ≤ (l.length : Int) * m := Int.mul_nonneg o_ hm
    have := fold_both hp hm l (addT t d) (netW x d) (B + m) (add_ok h hp o_ hB0 d hd0) o_ o_ (nets_step h hp o_ hB0 hx d hd0) (fun z hz => hd z (List.mem_cons_of_mem _ hz))
    rw [show B + ((l.length : Int) * m + m) = B + m + (l.length : Int) * m by omega]
    exact this
theorem zero_ok (p : Nat) : tabOk p 0 zeroT := fun a b _ _ => by rw [tg_zero]; exact ⟨by omega, by omega, fun h => by omega⟩
theorem rowS_zero (q : Nat) : ∀ n, rowS zeroT q n = 0
  | 0 => rfl
  | n + 1 => by unfold rowS; rw [rowS_zero q n, tg_zero]; rfl
theorem colS_zero (q : Nat) : ∀ n, colS zeroT q n = 0
  | 0 => rfl
  | n + 1 => by unfold colS; rw [colS_zero q n, tg_zero]; rfl
theorem zero_holds (p : Nat) : holds p zeroT (List.replicate p 0) := ⟨by simp, fun i hi => by
  unfold netT; rw [rowS_zero, colS_zero, List.getD_eq_getElem?_getD, List.getElem?_replicate, if_pos hi]; rfl⟩
theorem sum_both {p : Int} {l : List D} {m : Int} (hp0 : 0 ≤ p) (hp : p ≤ 16) (hm : 0 ≤ m) (hl : l.length * m ≤ 100000000000) (hd : ∀ d ∈ l, smallD p.toNat m d) : tabOk p.toNat (l.length * m) (sumT l) ∧ holds p.toNat (sumT l) (netsW p l) := by
  have := fold_both (p := p.toNat) o_ hm l zeroT (List.replicate p.toNat 0) 0 (zero_ok _) o_ o_ (zero_holds _) hd
  rw [Int.zero_add] at this
  exact this
theorem nets_eq {p : Nat} {t u : Tb} {x y : List Int} (hx : holds p t x) (hy : holds p u y) (h : ∀ i, i < p → netT t i = netT u i) : x = y := by
  refine List.ext_getElem (by rw [hx.1, hy.1]) (fun i h1 h2 => ?_)
  have e1 := hx.2 i (by rw [← hx.1]; exact h1)
  have e2 := hy.2 i (by rw [← hy.1]; exact h2)
  rw [getD_lt x 0 i h1] at e1
  rw [getD_lt y 0 i h2] at e2
  rw [e1, e2, h i (by rw [← hx.1]; exact h1)]
theorem tq_tg (t : Tb) (a b : Nat) (hb : b < 16) : tg t a b = tq t (16 * a + b) := (tq_at t a b hb).symm
theorem cells_sum {p : Nat} {B : Int} {t : Tb} (h : tabOk p B t) (hB : B ≤ 100000000000) : ∀ (d q : Nat) (u : Tb), q + d = 256 → (∀ j, j < q → tq u j = tq t j) → (∀ j, q ≤ j → j < 256 → tq u j = 0) → (cellsFrom t q).foldl addT u = t
  | 0, q, u, hq, h1, h2 => by
    rw [show q = 256 by omega, cells_end]
    refine tg_ext _ _ (fun i k hi hk => ?_)
    rw [tq_tg _ i k hk, tq_tg t i k hk]
    exact h1 _ o_
  | d + 1, q, u, hq, h1, h2 => by
    have hlt : q < 256 := by omega
    have ht := h (q / 16) (q % 16) o_ o_
    have et : tg t (q / 16) (q % 16) = tq t q := rfl
    rw [cells_step t q hlt]
    by_cases h0 : 0 < tq t q
    · rw [if_pos h0, List.foldl_cons]
      have hu : ∀ j, j < 256 → tq (addT u (dq t q)) j = if j = q then tq t q else tq u j := by
        intro j hj
        have e1 : addT u (dq t q) = Arr.vst2 16 u ((q / 16 : Nat) : Int) ((q % 16 : Nat) : Int) (wrap64 (tg u (q / 16) (q % 16) + tq t q)) := by
          unfold addT dq
          rw [vrd2_nn]
        have e2 : tg u (q / 16) (q % 16) = 0 := h2 q (Nat.le_refl _) hlt
        rw [e1, e2, Int.zero_add, wrap_id o_ o_]
        show tg _ (j / 16) (j % 16) = _
        rw [tg_set _ _ _ _ _ _ o_ o_ o_ o_]
        by_cases e : j = q
        · rw [if_pos e, if_pos ⟨by omega, by omega⟩]
        · rw [if_neg e, if_neg o_]; rfl
      refine cells_sum h hB d (q + 1) _ o_ (fun j hj => ?_) (fun j hj hj2 => ?_)
      · rw [hu j o_]
        by_cases e : j = q
        · rw [if_pos e, e]
        · rw [if_neg e]; exact h1 j o_
      · rw [hu j hj2, if_neg o_]; exact h2 j o_ hj2
    · rw [if_neg h0]
      refine cells_sum h hB d (q + 1) u o_ (fun j hj => ?_) (fun j hj hj2 => h2 j o_ hj2)
      by_cases e : j = q
      · rw [e, h2 q (Nat.le_refl _) hlt]; omega
      · exact h1 j o_
theorem sum_cells {p : Nat} {B : Int} {t : Tb} (h : tabOk p B t) (hB : B ≤ 100000000000) : sumT (cellsFrom t 0) = t :=
  cells_sum h hB 256 0 zeroT o_ (fun j hj => by omega) (fun j _ _ => tg_zero _ _)
theorem cells_mem {p : Nat} {B : Int} {t : Tb} (h : tabOk p B t) {d : D} (hd : d ∈ cellsFrom t 0) : smallD p B d := by
  unfold cellsFrom at hd
  obtain ⟨q, hq, rfl⟩ := List.mem_map.1 hd
  obtain ⟨hq1, hq2⟩ := List.mem_filter.1 hq
  have h0 := of_decide_eq_true hq2
  have hq3 := List.mem_range'_1.1 hq1
  have ht := h (q / 16) (q % 16) o_ o_
  have et : tg t (q / 16) (q % 16) = tq t q := rfl
  have h3 := ht.2.2 o_
  unfold smallD dq
  refine ⟨by simp only; omega, by simp only; omega, by simp only; omega, by simp only; omega, by simp only; omega, by simp only; omega, by simp only; omega⟩
set_option maxRecDepth 100000 in
theorem few_cells {p : Nat} {B : Int} {t : Tb} (h : tabOk p B t) (hp : p ≤ 6) : (cellsFrom t 0).length ≤ 36 := by
  unfold cellsFrom
  rw [List.length_map, ← List.countP_eq_length_filter]
  refine Nat.le_trans (List.countP_mono_left (q := fun x => decide (x / 16 < 6 ∧ x % 16 < 6)) (fun q hq h0 => decide_eq_true ?_)) (by decide)
  have h1 := of_decide_eq_true h0
  have hq3 := List.mem_range'_1.1 hq
  have ht := h (q / 16) (q % 16) o_ o_
  have et : tg t (q / 16) (q % 16) = tq t q := rfl
  have h3 := ht.2.2 o_
  omega
theorem list_small {p : Nat} {B : Int} {t : Tb} (h : tabOk p B t) (hp : p ≤ 6) (hB : B ≤ 100000000) : listR t = (cellsFrom t 0, 0) := by
  have hf := few_cells h hp
  unfold listR goL
  rw [List.nil_append, if_neg, if_neg o_]
  intro z
  unfold overFrom at z
  obtain ⟨x, hx, hx2⟩ := List.any_eq_true.1 z
  have h2 := of_decide_eq_true hx2
  have hq3 := List.mem_range'_1.1 hx
  have ht := h (x / 16) (x % 16) o_ o_
  have et : tg t (x / 16) (x % 16) = tq t x := rfl
  omega
theorem cells_valid {p : Int} {B : Int} {t : Tb} (h : tabOk p.toNat B t) (hp1 : 1 ≤ p) (hp : p ≤ 6) (hB : B ≤ 100000000) : valid p (cellsFrom t 0) = true := by
  have hf := few_cells h o_
  unfold valid
  rw [Bool.and_eq_true, decide_eq_true_eq, List.all_eq_true]
  refine ⟨⟨by omega, by omega, by omega⟩, fun d hm => okD_true ?_⟩
  have := cells_mem h hm
  unfold smallD at this
  omega
theorem cells_nets {p : Int} {B : Int} {t : Tb} (h : tabOk p.toNat B t) (hp1 : 1 ≤ p) (hp : p ≤ 6) (hB0 : 0 ≤ B) (hB : B ≤ 100000000) : holds p.toNat t (netsW p (cellsFrom t 0)) := by
  have hf := few_cells h o_
  have hl : ((cellsFrom t 0).length : Int) * B ≤ 36 * B := Int.mul_le_mul_of_nonneg_right o_ hB0
  have := (sum_both (p := p) (l := cellsFrom t 0) (m := B) o_ o_ hB0 o_ (fun d hd => cells_mem h hd)).2
  rw [sum_cells h o_] at this
  exact this
end Go.Proofs.Ytofcgkcpkngocaa.PuTab2Circles
