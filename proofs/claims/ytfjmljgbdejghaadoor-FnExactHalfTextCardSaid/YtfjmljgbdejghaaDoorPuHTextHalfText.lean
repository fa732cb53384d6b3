/- Texts of halves: the program's and the reference's are one list of bytes. -/
import Derived.Test.YtfjmljgbdejghaaDoorMHalfTextx0
import Derived.Test.YtfjmljgbdejghaaDoorMHalfTextx4
import Derived.Test.YtfjmljgbdejghaaDoorMHalfTextx7
import Derived.Test.YtfjmljgbdejghaaDoorEv
import Derived.Test.YtfjmljgbdejghaaDoorPuGrainHalfText
import Derived.Test.YtfjmljgbdejghaaDoorPuNotchHalfText
import Derived.Test.YtfjmljgbdejghaaDoorPuBytHalfText
import Derived.Lib.Join
namespace Go.Proofs.YtfjmljgbdejghaaDoor.PuHTextHalfText
open Go.RowKit Go.Proofs.YtfjmljgbdejghaaDoor.MHalfText Go.Proofs.YtfjmljgbdejghaaDoorW.PrintWords Go.Proofs.YtfjmljgbdejghaaDoorW.PrintLast Go.Proofs.YtfjmljgbdejghaaDoor.Evs Go.Proofs.YtfjmljgbdejghaaDoor.PuGrainHalfText Go.Proofs.YtfjmljgbdejghaaDoor.PuNotchHalfText Go.Proofs.YtfjmljgbdejghaaDoor.PuBytHalfText
set_option linter.unusedVariables false
set_option linter.unusedSimpArgs false

def letter (k : Int) : UInt8 := ([100, 115, 108, 118, 99, 109] : List UInt8).getD k.toNat 0
def bytesOf (l : List Int) : List UInt8 := l.map fun z => UInt8.ofNat z.toNat
theorem strOf (l : List Int) : strOfNums l = mkB (bytesOf l) := rfl
def gnums (g : G) (i : Nat) : List Int := (List.range' i (16 - i)).map fun q => 100 + gv g q
def side (s : Bool) : List UInt8 := if s = true then [115, 116, 111, 99, 107] else [102, 111, 105, 108]
def notchW (n : T) : List UInt8 := letter n.f0 :: Lib.decDigits n.f1.toNat
def tailT (l : List T) : List UInt8 := (l.map fun n => 32 :: notchW n).flatten
def htext (s : Bool) (l : List T) (g : G) : List UInt8 := side s ++ 32 :: (bytesOf (gnums g 0) ++ tailT l)
theorem gnums_step (g : G) (i : Nat) (h : i < 16) : gnums g i = (100 + gv g i) :: gnums g (i + 1) := by
  unfold gnums
  rw [show 16 - i = (16 - (i + 1)) + 1 by omega, List.range'_succ]; rfl
theorem gnums_end (g : G) : gnums g 16 = [] := rfl
theorem gnums_len (g : G) (i : Nat) : (gnums g i).length = 16 - i := by simp [gnums]
theorem letter_ex (k : Int) (h0 : 0 ≤ k) (h1 : k ≤ 5) : (⟨#[100, 115, 108, 118, 99, 109]⟩ : ByteArray).extract k.toNat (k + 1).toNat = mkB [letter k] := by
  obtain ⟨n, rfl⟩ : ∃ n : Nat, k = (n : Int) := ⟨k.toNat, by omega⟩
  have hn : n < 6 := by omega
  rw [show ((n : Int)).toNat = n by omega, show ((n : Int) + 1).toNat = n + 1 by omega]
  have : ∀ m, m < 6 → (⟨#[100, 115, 108, 118, 99, 109]⟩ : ByteArray).extract m (m + 1) = mkB [letter (m : Int)] := by decide
  exact this n hn
theorem i8up (k : Int) (h0 : 0 ≤ k) (h1 : k ≤ 5) : IntKind.i8.wrap (k + 1) = k + 1 := i8_id (by omega) (by omega)
theorem notchW_len (n : T) (h : ok1 n = true) : (notchW n).length ≤ 4 := by
  have h1 := of_decide_eq_true h
  have hw := wd_bd n.f0
  have := dec_len 2 n.f1.toNat (by unfold en at h1; omega)
  unfold notchW
  simp; omega
theorem tailT_step (l : List T) (i : Nat) (h : i < l.length) : tailT (l.drop i) = (32 :: notchW l[i]) ++ tailT (l.drop (i + 1)) := by
  rw [List.drop_eq_getElem_cons h]; rfl
/-! the program's -/
theorem joinW (a b : List UInt8) (l : List T) : Lib.join (a :: b :: l.map notchW) [32] = a ++ 32 :: (b ++ tailT l) := by
  rw [Lib.join_cons]
  simp only [Lib.joinTail, List.map_cons, List.flatten_cons, List.append_assoc, List.map_map, tailT]
  rfl
theorem tail_len : ∀ (l : List T), (∀ n ∈ l, ok1 n = true) → (tailT l).length ≤ 5 * l.length
  | [], _ => by simp [tailT]
  | n :: l, h => by
    have h1 := notchW_len n (h n (by simp))
    have h2 := tail_len l (fun m hm => h m (by simp [hm]))
    have e : tailT (n :: l) = (32 :: notchW n) ++ tailT l := rfl
    rw [e, List.length_append, List.length_cons, List.length_cons]
    omega
theorem loopN (a b : List UInt8) (l : List T) (ha : a.length ≤ 100) (hb : b.length ≤ 100) (hv : validN l = true) (hw : ∀ n ∈ l, wfT n) :
    Ev (fun k => impl_halfText.l1 k [mkB a, mkB b] l (l.length : Int) 0) (mkB (a ++ 32 :: (b ++ tailT l))) := by
  have h1 := valid_ok1 hv
  have h60 := valid_len hv
  have key := ev_forI (σ := List (List UInt8)) (n := l.length) (G := fun k s i => impl_halfText.l1 k (s.map mkB) l (l.length : Int) i) (F := fun s i => mkB (Lib.join (s ++ (l.drop i).map notchW) [32])) (I := fun s i => s = a :: b :: (l.take i).map notchW) ?_ ?_ 0 (by omega) [a, b] (by simp)
  · rw [← joinW]
    exact key
  · rintro i hi ih s rfl
    have hk := h1 l[i] (List.getElem_mem hi)
    have hok := of_decide_eq_true hk
    have hwb := wd_bd l[i].f0
    have hwf := hw l[i] (List.getElem_mem hi)
    refine Ev.step (fun k => by simp only [impl_halfText.l1]; rfl) ?_
    refine ev_pos (by omega) (ev_pos (by omega) (ev_pos (by omega) ?_))
    rw [rdT l i hi, i8up _ hok.1 hok.2.1, wrap_i16 hwf, letter_ex _ hok.1 hok.2.1, wrap_up hi (by omega)]
    refine ev_pos (by omega) (ev_pos (by omega) (ev_pos (by omega) ?_))
    refine ev_bind0 (decimal_eq _ (by omega) (by unfold en at hok; omega)) ?_
    have hl := notchW_len _ hk
    unfold notchW at hl
    simp only [List.length_cons] at hl
    refine ev_pos (by unfold decB; rw [mkB_size, mkB_size]; simp; omega) (ev_pos (by simp; omega) ?_)
    have := ih (a :: b :: (l.take (i + 1)).map notchW) rfl
    have e : (a :: b :: (l.take (i + 1)).map notchW).map mkB = (a :: b :: (l.take i).map notchW).map mkB ++ [mkB [letter l[i].f0] ++ decB l[i].f1.toNat] := by
      unfold decB
      rw [mkB_append, List.take_succ_eq_append_getElem hi]
      simp only [notchW, List.map_cons, List.map_append, List.map_nil, List.cons_append, List.nil_append]
    rw [e] at this
    refine ev_eq this ?_
    rw [List.take_succ_eq_append_getElem hi, List.drop_eq_getElem_cons hi]
    simp only [List.map_cons, List.map_append, List.map_nil, List.cons_append, List.nil_append, List.append_assoc]
  · rintro s rfl
    refine Ev.step (fun k => by simp only [impl_halfText.l1]; rfl) ?_
    refine ev_neg (by omega) ?_
    have hj : strings_Join.f ((a :: b :: (l.take l.length).map notchW).map mkB) (⟨#[32]⟩ : ByteArray) = some (mkB (Lib.join (a :: b :: l.map notchW) [32])) := by
      unfold strings_Join.f
      have em : ((a :: b :: (l.take l.length).map notchW).map mkB).map (fun z : ByteArray => z.data.toList) = a :: b :: l.map notchW := by
        rw [List.take_length, List.map_map]
        have : ((fun z : ByteArray => z.data.toList) ∘ mkB) = id := by funext x; exact mkB_data x
        rw [this, List.map_id]
      rw [em, show (⟨#[32]⟩ : ByteArray).data.toList = [32] from rfl]
      have ht := tail_len l h1
      rw [if_pos ⟨by simp; omega, by rw [joinW]; simp; omega⟩]
      rfl
    refine ev_bind0 hj ?_
    rw [List.take_length, List.drop_length, List.map_nil, List.append_nil]
    exact Ev.now _
theorem num100 {g : G} (hg : okG g = true) {i : Nat} (hi : i < 16) : (IntKind.i8.wrap (100 + gv g i)) % 256 = 100 + gv g i := by
  have h := (okG_iff g).1 hg i hi
  rw [i8_id (by omega) (by omega)]
  omega
theorem num100s {g : G} (hg : okG g = true) {i : Nat} (hi : i < 16) : (wrap64 (100 + (wrap64 (gv g i)))) % 256 = 100 + gv g i := by
  have h := (okG_iff g).1 hg i hi
  rw [wrap_id (x := gv g i) (by omega) (by omega), wrap_id (by omega) (by omega)]
  omega
theorem textHI_ev (s : Bool) (l : List T) (g : G) (hv : validH l g = true) (hw : ∀ n ∈ l, wfT n) : Ev (fun k => impl_halfText.f k s l g) (mkB (htext s l g)) := by
  have hN := validH_N hv
  have hg : okG g = true := by unfold validH at hv; simp only [Bool.and_eq_true] at hv; exact hv.2
  have main : ∀ a : List UInt8, a.length ≤ 100 → Ev (fun k => impl_halfText.j0 k (mkB a) s l g) (mkB (a ++ 32 :: (bytesOf (gnums g 0) ++ tailT l))) := by
    intro a ha
    refine Ev.step (fun k => by simp only [impl_halfText.j0]; rfl) ?_
    have key := ev_forI (σ := List Int) (n := 16) (G := fun k x i => impl_halfText.l0 k (mkB a) x i g s l g) (F := fun x i => mkB (a ++ 32 :: (bytesOf (x ++ gnums g i) ++ tailT l))) (I := fun x i => x.length = i) ?_ ?_ 0 (by omega) [] rfl
    · exact key
    · intro i hi ih x hx
      refine Ev.step (fun k => by simp only [impl_halfText.l0]; rfl) ?_
      refine ev_pos (by omega) (ev_pos (by omega) (ev_pos (by omega) ?_))
      rw [vrd_n, num100 hg hi, wrap_up hi (by omega)]
      refine ev_eq (ih _ (by simp [hx])) ?_
      rw [gnums_step g i hi, List.append_assoc]; rfl
    · intro x hx
      refine Ev.step (fun k => by simp only [impl_halfText.l0]; rfl) ?_
      refine ev_neg (by omega) ?_
      rw [gnums_end, List.append_nil, strOf]
      exact loopN a (bytesOf x) l ha (by simp [bytesOf, hx]) hN hw
  unfold impl_halfText.f htext side
  by_cases h : s = true
  · refine ev_pos h ?_
    rw [if_pos h]
    exact main [115, 116, 111, 99, 107] (by decide)
  · refine ev_neg h ?_
    rw [if_neg h]
    exact main [102, 111, 105, 108] (by decide)
/-! the reference's -/
theorem m32 : (⟨#[32]⟩ : ByteArray) = mkB [32] := rfl
theorem loopM (a : List UInt8) (s : Bool) (l : List T) (g : G) (ha : a.length ≤ 1000) (hv : validN l = true) (hw : ∀ n ∈ l, wfT n) :
    Ev (fun k => spec_l01Text.l1 k (mkB a) 0 s l g) (mkB (a ++ tailT l)) := by
  have h1 := valid_ok1 hv
  have h60 := valid_len hv
  have key := ev_forI (σ := List UInt8) (n := l.length) (G := fun k x i => spec_l01Text.l1 k (mkB x) i s l g) (F := fun x i => mkB (x ++ tailT (l.drop i))) (I := fun x i => x.length ≤ 1000 + 5 * i) ?_ ?_ 0 (by omega) a (by omega)
  · exact key
  · intro i hi ih x hx
    have hk := h1 l[i] (List.getElem_mem hi)
    have hok := of_decide_eq_true hk
    have hwb := wd_bd l[i].f0
    have hwf := hw l[i] (List.getElem_mem hi)
    refine Ev.step (fun k => by simp only [spec_l01Text.l1]; rfl) ?_
    refine ev_pos (by omega) (ev_pos (by omega) (ev_bind0 rfl ?_))
    rw [rdT l i hi, i8up _ hok.1 hok.2.1, wrap_i16 hwf, letter_ex _ hok.1 hok.2.1, wrap_up hi (by omega), m32]
    have hl := notchW_len _ hk
    unfold notchW at hl
    simp only [List.length_cons] at hl
    refine ev_pos (by omega) (ev_pos (by omega) (ev_pos (by show l[i].f0 + 1 ≤ (6 : Int); omega) (ev_pos (by rw [mkB_size]; simp) ?_)))
    refine Ev.bind (Decimal_ev' _ (by omega) (by unfold en at hok; omega)) ?_
    unfold decB
    simp only [mkB_append, mkB_size]
    refine ev_pos (by simp; omega) (ev_pos (by simp; omega) ?_)
    refine ev_eq (ih _ (by simp; omega)) ?_
    rw [tailT_step l i hi]
    simp [notchW]
  · intro x hx
    refine Ev.step (fun k => by simp only [spec_l01Text.l1]; rfl) ?_
    refine ev_neg (by omega) ?_
    rw [List.drop_length]
    simp only [tailT, List.map_nil, List.flatten_nil, List.append_nil]
    exact Ev.now _
theorem textHS_ev (s : Bool) (l : List T) (g : G) (hv : validH l g = true) (hw : ∀ n ∈ l, wfT n) : Ev (fun k => spec_l01Text.f k s l g) (mkB (htext s l g)) := by
  have hN := validH_N hv
  have hg : okG g = true := by unfold validH at hv; simp only [Bool.and_eq_true] at hv; exact hv.2
  have main : ∀ a : List UInt8, a.length ≤ 100 → Ev (fun k => spec_l01Text.j0 k (mkB a) s l g) (mkB (a ++ (bytesOf (gnums g 0) ++ tailT l))) := by
    intro a ha
    refine Ev.step (fun k => by simp only [spec_l01Text.j0]; rfl) ?_
    have key := ev_forI (σ := List UInt8) (n := 16) (G := fun k x i => spec_l01Text.l0 k (mkB x) i s l g) (F := fun x i => mkB (x ++ (bytesOf (gnums g i) ++ tailT l))) (I := fun x i => x.length ≤ 100 + i) ?_ ?_ 0 (by omega) a (by omega)
    · exact key
    · intro i hi ih x hx
      refine Ev.step (fun k => by simp only [spec_l01Text.l0]; rfl) ?_
      refine ev_pos (by omega) (ev_pos (by omega) (ev_bind0 rfl ?_))
      rw [vrd_n, num100s hg hi, wrap_up hi (by omega), strOf, mkB_append]
      refine ev_pos (by rw [mkB_size, mkB_size]; simp [bytesOf]; omega) ?_
      refine ev_eq (ih _ (by simp [bytesOf]; omega)) ?_
      rw [gnums_step g i hi, List.append_assoc]; rfl
    · intro x hx
      refine Ev.step (fun k => by simp only [spec_l01Text.l0]; rfl) ?_
      refine ev_neg (by omega) ?_
      rw [gnums_end]
      exact loopM x s l g (by omega) hN hw
  unfold spec_l01Text.f htext side
  by_cases h : s = true
  · refine ev_pos h ?_
    rw [if_pos h]
    exact main [115, 116, 111, 99, 107, 32] (by decide)
  · refine ev_neg h ?_
    rw [if_neg h]
    exact main [102, 111, 105, 108, 32] (by decide)
def htextR (s : Bool) (l : List T) (g : G) : List UInt8 := if validH l g = true then htext s l g else []
theorem HTextS_ev (s : Bool) (l : List T) (g : G) (hl : l.length ≤ maxLen) (hw : ∀ n ∈ l, wfT n) : Ev (fun k => spec_HalfText.f k s l g) (mkB (htextR s l g)) := by
  unfold spec_HalfText.f htextR
  refine Ev.bind (okS_ev s l g hl hw) ?_
  by_cases h : validH l g = true
  · rw [if_pos h]
    exact ev_pos h (Ev.bind (textHS_ev s l g h hw) (Ev.now _))
  · rw [if_neg h]
    exact ev_neg h (Ev.now _)
theorem HTextI_ev (s : Bool) (l : List T) (g : G) (hl : l.length ≤ maxLen) (hw : ∀ n ∈ l, wfT n) : Ev (fun k => impl_HalfText.f k s l g) (mkB (htextR s l g)) := by
  unfold impl_HalfText.f htextR
  refine Ev.bind (ValidHalfI_ev s l g hl hw) ?_
  by_cases h : validH l g = true
  · rw [if_pos h]
    exact ev_pos h (Ev.bind (textHI_ev s l g h hw) (Ev.now _))
  · rw [if_neg h]
    exact ev_neg h (Ev.now _)
end Go.Proofs.YtfjmljgbdejghaaDoor.PuHTextHalfText
