/- Texts of debts: the program's and the reference's are one list of bytes. -/
import Derived.Test.YtfjmljgbdejghaaDoorMDebtsTextx0
import Derived.Test.YtfjmljgbdejghaaDoorMDebtsTextx4
import Derived.Test.YtfjmljgbdejghaaDoorMDebtsTextx6
import Derived.Test.YtfjmljgbdejghaaDoorEv
import Derived.Test.YtfjmljgbdejghaaDoorPuDebtDebtsText
import Derived.Test.YtfjmljgbdejghaaDoorPuSumNetsDebtsText
import Derived.Test.YtfjmljgbdejghaaDoorPuBytDebtsText
import Derived.Test.YtfjmljgbdejghaaDoorPuAmtDebtsText
namespace Go.Proofs.YtfjmljgbdejghaaDoor.PuDTextDebtsText
open Go.RowKit Go.Proofs.YtfjmljgbdejghaaDoor.MDebtsText Go.Proofs.YtfjmljgbdejghaaDoorW.PrintWords Go.Proofs.YtfjmljgbdejghaaDoorW.PrintLast Go.Proofs.YtfjmljgbdejghaaDoor.Evs Go.Proofs.YtfjmljgbdejghaaDoor.PuDebtDebtsText Go.Proofs.YtfjmljgbdejghaaDoor.PuSumNetsDebtsText Go.Proofs.YtfjmljgbdejghaaDoor.PuBytDebtsText Go.Proofs.YtfjmljgbdejghaaDoor.PuAmtDebtsText
set_option linter.unusedVariables false
set_option linter.unusedSimpArgs false

def lineN (a b c : Nat) : List UInt8 := Lib.decDigits a ++ [32] ++ Lib.decDigits b ++ [32] ++ amtL c ++ [10]
def lineL (d : D) : List UInt8 := lineN d.f0.toNat d.f1.toNat d.f2.toNat
def dtext (l : List D) : List UInt8 := (l.map lineL).flatten
theorem lineN_len (a b c : Nat) (ha : a < 100) (hb : b < 100) (hc : c ≤ 100000000) : (lineN a b c).length ≤ 100 := by
  have h1 := dec_len 1 a (by omega)
  have h2 := dec_len 1 b (by omega)
  have h3 := amtL_len c hc
  unfold lineN
  simp only [List.length_append, List.length_singleton]
  omega
theorem m32 : (⟨#[32]⟩ : ByteArray) = mkB [32] := rfl
theorem m10 : (⟨#[10]⟩ : ByteArray) = mkB [10] := rfl
theorem row (s : List UInt8) (a b c : Nat) (ha : a < 100) (hb : b < 100) (hc : c ≤ 100000000) (hs : s.length ≤ 10000) {f1 f2 f3 : Nat → Option ByteArray} {G : Nat → ByteArray → Option ByteArray} {r : ByteArray}
    (h1 : Ev f1 (decB a)) (h2 : Ev f2 (decB b)) (h3 : Ev f3 (mkB (amtL c))) (h : Ev (fun k => G k (mkB (s ++ lineN a b c))) r) :
    Ev (fun k => (f1 k).bind fun t163 => (if t163.size + 1 ≤ 9223372036854775807 then ((f2 k).bind fun t164 => (if (t163 ++ (⟨#[32]⟩ : ByteArray)).size + t164.size ≤ 9223372036854775807 then (if ((t163 ++ (⟨#[32]⟩ : ByteArray)) ++ t164).size + 1 ≤ 9223372036854775807 then ((f3 k).bind fun t165 => (if (((t163 ++ (⟨#[32]⟩ : ByteArray)) ++ t164) ++ (⟨#[32]⟩ : ByteArray)).size + t165.size ≤ 9223372036854775807 then (if ((((t163 ++ (⟨#[32]⟩ : ByteArray)) ++ t164) ++ (⟨#[32]⟩ : ByteArray)) ++ t165).size + 1 ≤ 9223372036854775807 then (if (mkB s).size + (((((t163 ++ (⟨#[32]⟩ : ByteArray)) ++ t164) ++ (⟨#[32]⟩ : ByteArray)) ++ t165) ++ (⟨#[10]⟩ : ByteArray)).size ≤ 9223372036854775807 then (G k ((mkB s) ++ (((((t163 ++ (⟨#[32]⟩ : ByteArray)) ++ t164) ++ (⟨#[32]⟩ : ByteArray)) ++ t165) ++ (⟨#[10]⟩ : ByteArray)))) else (none)) else (none)) else (none))) else (none)) else (none))) else (none))) r := by
  have l1 := dec_len 1 a (by omega)
  have l2 := dec_len 1 b (by omega)
  have l3 := amtL_len c hc
  refine Ev.bind h1 ?_
  unfold decB
  refine ev_pos (by rw [mkB_size]; omega) (Ev.bind h2 ?_)
  unfold decB
  simp only [m32, m10, mkB_append, mkB_size]
  refine ev_pos (by simp only [List.length_append, List.length_singleton]; omega) (ev_pos (by simp only [List.length_append, List.length_singleton]; omega) (Ev.bind h3 ?_))
  simp only [m32, m10, mkB_append, mkB_size]
  refine ev_pos (by simp only [List.length_append, List.length_singleton]; omega) (ev_pos (by simp only [List.length_append, List.length_singleton]; omega) (ev_pos (by simp only [List.length_append, List.length_singleton]; omega) ?_))
  exact h
theorem dtext_drop (l : List D) (i : Nat) (h : i < l.length) : dtext (l.drop i) = lineL l[i] ++ dtext (l.drop (i + 1)) := by
  rw [List.drop_eq_getElem_cons h]; rfl
theorem textS_ev (l : List D) (hv : valid 16 l = true) : Ev (fun k => spec_l02Text.f k l) (mkB (dtext l)) := by
  obtain ⟨hp, hp2, h60, hd⟩ := valid_bd hv
  unfold spec_l02Text.f
  have key := ev_forI (σ := List UInt8) (n := l.length) (G := fun k s i => spec_l02Text.l0 k l (mkB s) i) (F := fun s i => mkB (s ++ dtext (l.drop i))) (I := fun s i => s.length ≤ 100 * i) ?_ ?_ 0 (by omega) [] (by simp)
  · exact key
  · intro i hi ih s hs
    have hb := hd l[i] (List.getElem_mem hi)
    refine Ev.step (fun k => by simp only [spec_l02Text.l0]; rfl) ?_
    refine ev_pos (by omega) (ev_pos (by omega) ?_)
    rw [rdD l i hi, wrap_up hi (by omega)]
    have hn := lineN_len l[i].f0.toNat l[i].f1.toNat l[i].f2.toNat (by omega) (by omega) (by omega)
    have ht := l01Text_ev l[i].f2.toNat (by omega)
    rw [show ((l[i].f2.toNat : Nat) : Int) = l[i].f2 by omega] at ht
    refine row s l[i].f0.toNat l[i].f1.toNat l[i].f2.toNat (by omega) (by omega) (by omega) (by omega) (G := fun k x => spec_l02Text.l0 k l x ((i : Int) + 1)) (Decimal_ev' _ (by omega) (by omega)) (Decimal_ev' _ (by omega) (by omega)) ht ?_
    refine ev_eq (ih _ (by rw [List.length_append]; omega)) ?_
    rw [dtext_drop l i hi, List.append_assoc]; rfl
  · intro s hs
    refine Ev.step (fun k => by simp only [spec_l02Text.l0]; rfl) ?_
    refine ev_neg (by omega) ?_
    refine ev_eq (Ev.now _) ?_
    rw [List.drop_length]
    simp [dtext]
theorem textI_ev (l : List D) (hv : valid 16 l = true) : Ev (fun k => impl_DebtsText.l0 k (⟨#[]⟩ : ByteArray) l (l.length : Int) 0) (mkB (dtext l)) := by
  obtain ⟨hp, hp2, h60, hd⟩ := valid_bd hv
  have key := ev_forI (σ := List UInt8) (n := l.length) (G := fun k s i => impl_DebtsText.l0 k (mkB s) l (l.length : Int) i) (F := fun s i => mkB (s ++ dtext (l.drop i))) (I := fun s i => s.length ≤ 100 * i) ?_ ?_ 0 (by omega) [] (by simp)
  · exact key
  · intro i hi ih s hs
    have hb := hd l[i] (List.getElem_mem hi)
    refine Ev.step (fun k => by simp only [impl_DebtsText.l0]; rfl) ?_
    refine ev_pos (by omega) (ev_pos (by omega) (ev_pos (by omega) ?_))
    rw [rdD l i hi, wrap_up hi (by omega)]
    have hn := lineN_len l[i].f0.toNat l[i].f1.toNat l[i].f2.toNat (by omega) (by omega) (by omega)
    have ht := implText_ev l[i].f2
    rw [show amtT l[i].f2 = amtL l[i].f2.toNat by unfold amtT; rw [if_pos (by omega)]] at ht
    have e1 : Ev (fun _ => impl_decimal.f l[i].f0) (decB l[i].f0.toNat) := by rw [decimal_eq _ (by omega) (by omega)]; exact Ev.now _
    have e2 : Ev (fun _ => impl_decimal.f l[i].f1) (decB l[i].f1.toNat) := by rw [decimal_eq _ (by omega) (by omega)]; exact Ev.now _
    refine row s l[i].f0.toNat l[i].f1.toNat l[i].f2.toNat (by omega) (by omega) (by omega) (by omega) (G := fun k x => impl_DebtsText.l0 k x l (l.length : Int) ((i : Int) + 1)) e1 e2 ht ?_
    refine ev_eq (ih _ (by rw [List.length_append]; omega)) ?_
    rw [dtext_drop l i hi, List.append_assoc]; rfl
  · intro s hs
    refine Ev.step (fun k => by simp only [impl_DebtsText.l0]; rfl) ?_
    refine ev_neg (by omega) ?_
    refine ev_eq (Ev.now _) ?_
    rw [List.drop_length]
    simp [dtext]
def dtextR (l : List D) : List UInt8 := if valid 16 l = true then dtext l else []
theorem DTextS_ev (l : List D) (hl : l.length ≤ maxLen) : Ev (fun k => spec_DebtsText.f k l) (mkB (dtextR l)) := by
  unfold spec_DebtsText.f dtextR
  refine Ev.bind (l02Ok_ev 16 l hl) ?_
  by_cases hv : valid 16 l = true
  · rw [if_pos hv]
    exact ev_pos hv (Ev.bind (textS_ev l hv) (Ev.now _))
  · rw [if_neg hv]
    exact ev_neg hv (Ev.now _)
theorem DTextI_ev (l : List D) (hl : l.length ≤ maxLen) : Ev (fun k => impl_DebtsText.f k l) (mkB (dtextR l)) := by
  unfold impl_DebtsText.f dtextR
  refine Ev.bind (ValidI_ev 16 l hl) ?_
  by_cases hv : valid 16 l = true
  · rw [if_pos hv]
    exact ev_pos hv (textI_ev l hv)
  · rw [if_neg hv]
    exact ev_neg hv (Ev.now _)
end Go.Proofs.YtfjmljgbdejghaaDoor.PuDTextDebtsText
