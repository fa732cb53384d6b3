/- The text of an amount: the program's and the reference's are one list of bytes. -/
import Derived.Test.YtfjmljgbdejghaaDoorMReadDebtsx0
import Derived.Test.YtfjmljgbdejghaaDoorMReadDebtsx2
import Derived.Test.YtfjmljgbdejghaaDoorMReadDebtsx6
import Derived.Test.YtfjmljgbdejghaaDoorVReadDebtsEv
import Derived.Test.YtfjmljgbdejghaaDoorPuBytReadDebts
import Derived.Lib.Join
namespace Go.Proofs.YtfjmljgbdejghaaDoor.PuAmtReadDebts
open Go.RowKit Go.Proofs.YtfjmljgbdejghaaDoor.MReadDebts Go.Proofs.YtfjmljgbdejghaaDoorW.PrintWords Go.Proofs.YtfjmljgbdejghaaDoorW.PrintLast Go.Proofs.YtfjmljgbdejghaaDoor.Evs Go.Proofs.YtfjmljgbdejghaaDoor.PuBytReadDebts
set_option linter.unusedVariables false
set_option linter.unusedSimpArgs false

def part (out : List UInt8) (n : Nat) (u : UInt8) : List UInt8 := if n = 0 then out else (if out = [] then [] else out ++ [32]) ++ Lib.decDigits n ++ [u]
/-- the text of an amount that is no 0 -/
def amtP (a : Nat) : List UInt8 := part (part (part [] (a / 240) 108) (a / 12 % 20) 115) (a % 12) 100
def amtL (a : Nat) : List UInt8 := if a = 0 then [48, 100] else amtP a
theorem part_len (out : List UInt8) (n : Nat) (u : UInt8) (h : n < 100000000) : (part out n u).length ≤ out.length + 10 := by
  unfold part
  split
  · omega
  · have := dec_len 7 n (by omega)
    split <;> simp <;> omega
theorem amtP_len (a : Nat) (h : a ≤ 100000000) : (amtP a).length ≤ 30 := by
  unfold amtP
  have h1 := part_len [] (a / 240) 108 (by omega)
  have h2 := part_len (part [] (a / 240) 108) (a / 12 % 20) 115 (by omega)
  have h3 := part_len (part (part [] (a / 240) 108) (a / 12 % 20) 115) (a % 12) 100 (by omega)
  simp at h1
  omega
theorem amtL_len (a : Nat) (h : a ≤ 100000000) : (amtL a).length ≤ 30 := by
  unfold amtL
  split
  · simp
  · exact amtP_len a h
theorem part_ev (out : List UInt8) (n : Nat) (u : UInt8) (h : n < 100000000) (hl : out.length ≤ 100) : Ev (fun k => spec_l01Part.f k (mkB out) (n : Int) (mkB [u])) (mkB (part out n u)) := by
  unfold spec_l01Part.f part
  have hd := dec_len 7 n (by omega)
  by_cases h0 : n = 0
  · rw [if_pos h0]
    exact ev_pos (by omega) (Ev.now _)
  rw [if_neg h0]
  refine ev_neg (by omega) ?_
  by_cases h1 : out = []
  · subst h1
    refine ev_pos (by rw [mkB_toList]) ?_
    refine Ev.bind (Decimal_ev n (by omega)) ?_
    unfold decB
    refine ev_pos (by rw [mkB_size, mkB_size]; simp; omega) ?_
    rw [mkB_append]
    refine ev_pos (by rw [mkB_size, mkB_size]; simp; omega) ?_
    rw [mkB_append, if_pos rfl]
    exact Ev.now _
  · refine ev_neg (by rw [mkB_toList]; exact h1) ?_
    refine ev_pos (by rw [mkB_size]; omega) ?_
    refine Ev.bind (Decimal_ev n (by omega)) ?_
    have e32 : (⟨#[32]⟩ : ByteArray) = mkB [32] := rfl
    rw [e32]
    unfold decB
    rw [mkB_append]
    refine ev_pos (by rw [mkB_size, mkB_size]; simp; omega) ?_
    rw [mkB_append]
    refine ev_pos (by rw [mkB_size, mkB_size]; simp; omega) ?_
    rw [mkB_append, if_neg h1]
    exact Ev.now _
theorem tdivN (a b : Nat) : Int.tdiv (a : Int) (b : Int) = ((a / b : Nat) : Int) := by rw [Int.tdiv_eq_ediv_of_nonneg (by omega)]; omega
theorem tmodN (a b : Nat) : Int.tmod (a : Int) (b : Int) = ((a % b : Nat) : Int) := by rw [Int.tmod_eq_emod_of_nonneg (by omega)]; omega
theorem n240 (a : Nat) (h : a ≤ 100000000) : wrap64 (Int.tdiv (a : Int) 240) = ((a / 240 : Nat) : Int) := by
  rw [show (240 : Int) = ((240 : Nat) : Int) from rfl, tdivN, wrap_id (by omega) (by omega)]
theorem n12 (a : Nat) (h : a ≤ 100000000) : Int.tmod (wrap64 (Int.tdiv (a : Int) 12)) 20 = ((a / 12 % 20 : Nat) : Int) := by
  rw [show (12 : Int) = ((12 : Nat) : Int) from rfl, tdivN, wrap_id (by omega) (by omega), show (20 : Int) = ((20 : Nat) : Int) from rfl, tmodN]
theorem n1 (a : Nat) : Int.tmod (a : Int) 12 = ((a % 12 : Nat) : Int) := by
  rw [show (12 : Int) = ((12 : Nat) : Int) from rfl, tmodN]
theorem l01Text_ev (a : Nat) (h : a ≤ 100000000) : Ev (fun k => spec_l01AmountText.f k (a : Int)) (mkB (amtL a)) := by
  unfold spec_l01AmountText.f amtL
  by_cases h0 : a = 0
  · rw [if_pos h0]
    exact ev_pos (by omega) (Ev.now _)
  rw [if_neg h0]
  refine ev_neg (by omega) ?_
  rw [n240 a h, n12 a h, n1 a]
  have l1 := part_len [] (a / 240) 108 (by omega)
  have l2 := part_len (part [] (a / 240) 108) (a / 12 % 20) 115 (by omega)
  simp at l1
  refine Ev.bind (part_ev [] (a / 240) 108 (by omega) (by simp)) ?_
  refine Ev.bind (part_ev _ (a / 12 % 20) 115 (by omega) (by omega)) ?_
  refine Ev.bind (part_ev _ (a % 12) 100 (by omega) (by omega)) (Ev.now _)
theorem isAmt (a : Int) : spec_l01Amount.f a = some (decide (0 ≤ a ∧ a ≤ 100000000)) := by
  unfold spec_l01Amount.f spec_l00In.f
  by_cases h : a ≥ 0
  · rw [if_pos h]; simp; omega
  · rw [if_neg h]; simp; omega
theorem isAmtI (a : Int) : impl_isAmount.f a = some (decide (0 ≤ a ∧ a ≤ 100000000)) := by
  unfold impl_isAmount.f
  by_cases h : a ≥ 0
  · rw [if_pos h]; simp; omega
  · rw [if_neg h]; simp; omega
def amtT (a : Int) : List UInt8 := if 0 ≤ a ∧ a ≤ 100000000 then amtL a.toNat else []
/-- a word of an amount, if there is one -/
def wd (n : Nat) (u : UInt8) : List (List UInt8) := if n = 0 then [] else [Lib.decDigits n ++ [u]]
def wdB (n : Nat) (u : UInt8) : List ByteArray := (wd n u).map mkB
theorem wdB_map (n : Nat) (u : UInt8) : (wdB n u).map (·.data.toList) = wd n u := by
  unfold wdB wd
  split <;> simp [mkB_data]
theorem join3 (a : Nat) : Lib.join (wd (a / 240) 108 ++ (wd (a / 12 % 20) 115 ++ wd (a % 12) 100)) [32] = amtP a := by
  have e2 : ∀ x y s : List UInt8, Lib.join [x, y] s = x ++ (s ++ y) := by intro x y s; rw [Lib.join_cons]; simp [Lib.joinTail]
  have e3 : ∀ x y z s : List UInt8, Lib.join [x, y, z] s = x ++ (s ++ (y ++ (s ++ z))) := by intro x y z s; rw [Lib.join_cons]; simp [Lib.joinTail]
  unfold amtP part wd
  by_cases h1 : a / 240 = 0 <;> by_cases h2 : a / 12 % 20 = 0 <;> by_cases h3 : a % 12 = 0 <;> simp [h1, h2, h3, e2, e3, Lib.join_nil, Lib.join_one, dec_ne, List.append_assoc]
theorem rnd (x3 : List ByteArray) (p q s i n : Nat) (u : UInt8) (r : ByteArray) (hi : i < 3) (hrd : rd [(p : Int), (q : Int), (s : Int)] (i : Int) = (n : Int)) (hn : n < 1000000000)
    (hu : (⟨#[108, 115, 100]⟩ : ByteArray).extract i (i + 1) = mkB [u]) (hx : x3.length ≤ 10)
    (h : Ev (fun k => impl_AmountText.l0 k (x3 ++ wdB n u) [(p : Int), (q : Int), (s : Int)] 3 ((i : Int) + 1)) r) :
    Ev (fun k => impl_AmountText.l0 k x3 [(p : Int), (q : Int), (s : Int)] 3 (i : Int)) r := by
  refine Ev.step (fun k => by simp only [impl_AmountText.l0]; rfl) ?_
  refine ev_pos (by omega) (ev_pos (by omega) (ev_pos (by simp; omega) ?_))
  rw [wrap_up hi (by omega), hrd]
  by_cases h0 : n = 0
  · refine ev_neg (by omega) ?_
    have e : wdB n u = [] := by simp [wdB, wd, h0]
    rw [e, List.append_nil] at h
    exact h
  · refine ev_pos (by omega) ?_
    refine ev_bind0 (decimal_eq (n : Int) (by omega) (by omega)) ?_
    refine ev_pos (by omega) (ev_pos (by omega) ?_)
    rw [show ((i : Int)).toNat = i by omega, show ((i : Int) + 1).toNat = i + 1 by omega, hu, show ((n : Int)).toNat = n by omega]
    have hd := dec_len 8 n (by omega)
    refine ev_pos (by unfold decB; rw [mkB_size, mkB_size]; simp; omega) (ev_pos (by omega) ?_)
    have e : wdB n u = [decB n ++ mkB [u]] := by simp [wdB, wd, h0, decB, mkB_append]
    rw [e] at h
    exact h
theorem wdB_len (n : Nat) (u : UInt8) : (wdB n u).length ≤ 1 := by
  unfold wdB wd
  split <;> simp
theorem implText_ev (a : Int) : Ev (fun k => impl_AmountText.f k a) (mkB (amtT a)) := by
  unfold impl_AmountText.f amtT
  refine ev_bind0 (isAmtI a) ?_
  by_cases h : ¬ (0 ≤ a ∧ a ≤ 100000000)
  · refine ev_neg (by simpa using h) ?_
    rw [if_neg h]
    exact Ev.now _
  replace h := Decidable.not_not.1 h
  refine ev_pos (by simpa using h) ?_
  rw [if_pos h]
  unfold amtL
  by_cases h0 : a = 0
  · rw [if_pos (by omega)]
    exact ev_pos h0 (Ev.now _)
  rw [if_neg (by omega)]
  refine ev_neg h0 ?_
  obtain ⟨m, rfl⟩ : ∃ m : Nat, a = (m : Int) := ⟨a.toNat, by omega⟩
  have hm : m ≤ 100000000 := by omega
  rw [n240 m hm, n12 m hm, n1 m, show ((m : Int)).toNat = m by omega]
  refine ev_bind0 rfl ?_
  have w1 := wdB_len (m / 240) 108
  have w2 := wdB_len (m / 12 % 20) 115
  have w3 := wdB_len (m % 12) 100
  refine rnd [] _ _ _ 0 (m / 240) 108 _ (by omega) rfl (by omega) (by decide) (by simp) ?_
  refine rnd _ _ _ _ 1 (m / 12 % 20) 115 _ (by omega) rfl (by omega) (by decide) (by simp; omega) ?_
  refine rnd _ _ _ _ 2 (m % 12) 100 _ (by omega) rfl (by omega) (by decide) (by simp; omega) ?_
  refine Ev.step (fun k => by simp only [impl_AmountText.l0]; rfl) ?_
  refine ev_neg (by omega) ?_
  have ej : ([] ++ wdB (m / 240) 108 ++ wdB (m / 12 % 20) 115 ++ wdB (m % 12) 100).map (fun z : ByteArray => z.data.toList) = wd (m / 240) 108 ++ (wd (m / 12 % 20) 115 ++ wd (m % 12) 100) := by
    simp only [List.nil_append, List.map_append, wdB_map, List.append_assoc]
  have hj : strings_Join.f ([] ++ wdB (m / 240) 108 ++ wdB (m / 12 % 20) 115 ++ wdB (m % 12) 100) (⟨#[32]⟩ : ByteArray) = some (mkB (amtP m)) := by
    have hl := amtP_len m hm
    unfold strings_Join.f
    rw [ej, show (⟨#[32]⟩ : ByteArray).data.toList = [32] from rfl, join3 m, if_pos ⟨by simp; omega, by omega⟩]
    rfl
  exact ev_bind0 hj (Ev.now _)
end Go.Proofs.YtfjmljgbdejghaaDoor.PuAmtReadDebts
