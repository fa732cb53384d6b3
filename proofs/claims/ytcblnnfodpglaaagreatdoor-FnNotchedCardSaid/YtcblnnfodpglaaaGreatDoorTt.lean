/- Words for this claim: the table of tens that the library's numerals read, along the worlds of a call. -/
import Derived.Test.YtcblnnfodpglaaaGreatDoorRows
import Derived.Test.YtcblnnfodpglaaaGreatDoorShelf
import Derived.Test.YtcblnnfodpglaaaGreatDoorVNotchedWWords
import Derived.Lib.AppendIntMem
import Derived.Lib.LaidTab
namespace Go.Proofs.YtcblnnfodpglaaaGreatDoor.Tt
open Go Go.RowKit Go.Proofs.YtcblnnfodpglaaaGreatDoorW.PrintWords
set_option linter.unusedVariables false

theorem cell_addr {w : World} {a : Addr} {v : Value} (h : w.cell? a = some v) : a.spot = none ∧ a.block < w.heap.size := by
  unfold World.cell? at h
  split at h
  · rename_i c e f hb
    split at h
    · cases h
    · rename_i hs
      refine ⟨by simpa using hs, ?_⟩
      rcases Nat.lt_or_ge a.block w.heap.size with h1 | h1
      · exact h1
      · rw [Array.getElem?_eq_none h1] at hb
        cases hb
  · cases h

def TT (w : World) : Prop := Lib.TabIs Tryz.prog w "internal/strconv.uint64pow10" .u64 Lib.pow10Tab ∧ ∃ m : Int, w.cell? ⟨0, 0, none⟩ = some (.int .i64 m)

theorem TT_on {w w' : World} (h : TT w) (hb : Below w.heap.size w w') : TT w' := by
  refine ⟨Lib.tabBelow_of_tabIs h.1 w' hb, ?_⟩
  obtain ⟨m, hm⟩ := h.2
  refine ⟨m, ?_⟩
  rw [← hm]
  have hl := (cell_addr hm).2
  unfold World.cell?
  rw [hb.block _ hl]
theorem TT_of {w : World} (h : Lib.TabIs Tryz.prog w "internal/strconv.uint64pow10" .u64 Lib.pow10Tab) (hsh : w.ShapedOpen Tryz.prog) : TT w := by
  refine ⟨h, ?_⟩
  exact Tryz.laysM146.s1_3 w hsh

theorem fmt_call (f : Nat) (hf : f = 70) (n : Int) (w : World) (hT : TT w) (h0 : -9223372036854775808 ≤ n) (h1 : n ≤ 9223372036854775807) :
    Calls Tryz.prog f #[.int .i64 n, .int .i64 10] w fun e w' => e = .returned (.string ⟨(Lib.itoa n).toArray⟩) ∧ Below w.heap.size w w' := by
  subst hf
  refine (Tryz.strconv_FormatInt_10 n h0 h1 w hT.1).mono ?_
  rintro e w' ⟨he, k, os, rfl⟩
  exact ⟨he, Lib.below_grow _ _ (Nat.le_refl _) k os⟩
theorem join_call (f : Nat) (hf : f = 56) (A0 : Option Addr) (c0 : Nat) (l0 : List ByteArray) (a1 : ByteArray) (w : World)
    (h1 : l0.length ≤ 140737488355328) (h2 : (Lib.join (l0.map (·.data.toList)) a1.data.toList).length ≤ 140737488355328)
    (hr : Kd.C Kd.string w A0 l0.length l0) (hc : l0.length ≤ c0) :
    Calls Tryz.prog f #[.slice A0 l0.length c0, .string a1] w fun e w' => e = .returned (.string ⟨(Lib.join (l0.map (·.data.toList)) a1.data.toList).toArray⟩) ∧ Below w.heap.size w w' := by
  subst hf
  cases l0 with
  | nil =>
    refine (Tryz.strings_Join_none A0 c0 a1 w).mono ?_
    rintro e w' ⟨he, rfl⟩
    exact ⟨he, Below.refl _ _⟩
  | cons x l =>
    obtain ⟨ad, rfl, hcell⟩ := hr.2.2 (by simp)
    have hadd : ∀ (j : Nat) y, (x :: l)[j]? = some y → w.cell? (ad.add j) = some (.string y) := by
      intro j y hj
      obtain ⟨cs, hl, hR, hcc⟩ := hcell j y hj
      obtain rfl : cs = [.string y] := hR
      have := hcc 0 _ rfl
      simpa [Kd.string, Kd.scalar] using this
    have hs := cell_addr (show w.cell? ad = some (.string x) by simpa [Addr.add] using hadd 0 x rfl)
    obtain ⟨b, o, s⟩ := ad
    obtain rfl : s = none := hs.1
    have hcells : ∀ (j : Nat) y, (x :: l)[j]? = some y → w.cell? ⟨b, o + j, none⟩ = some (.string y) := by
      intro j y hj
      have h := hadd j y hj
      unfold Addr.add at h
      split at h
      · rename_i h0
        subst h0
        exact h
      · exact h
    exact Tryz.strings_Join b o c0 (x :: l) a1 w hcells hs.2 h1 hc h2
theorem row_of (w : World) (l : List ByteArray) (cap : Nat) (cells : Array Value) (e : TypeId) (hcap : l.length ≤ cap) (hmax : cap ≤ maxLen) (hsz : cells.size = cap)
    (htake : cells.toList.take l.length = l.map Value.string) :
    Kd.R Kd.string e (w.alloc (.cells cells e)) w.heap.size (fun _ => True) (.slice (some ⟨w.heap.size, 0, none⟩) l.length cap) l := by
  refine ⟨fun _ _ => trivial, l.map Value.string, ⟨?_, .inr ⟨w.heap.size, cap, cells, rfl, Nat.le_refl _, ?_, hcap, hmax, ?_, ?_⟩⟩, ?_, ?_⟩
  · simp [Kd.string, Kd.scalar]
  · exact heap_alloc_new w _
  · simpa [Kd.string, Kd.scalar] using hsz
  · simpa [Kd.string, Kd.scalar] using htake
  · simp [Kd.string, Kd.scalar]
  · intro j p hp
    show _ = [Value.string p]
    have hj : j < l.length := by
      rcases Nat.lt_or_ge j l.length with h | h
      · exact h
      · rw [List.getElem?_eq_none h] at hp; cases hp
    have e1 : (l.map Value.string)[j]? = some (.string p) := by rw [List.getElem?_map, hp]; rfl
    show (((l.map Value.string).drop (j * 1)).take 1) = _
    rw [Nat.mul_one, List.drop_eq_getElem_cons (by simpa using hj)]
    rw [List.getElem?_eq_getElem (by simpa using hj)] at e1
    injection e1 with e1
    rw [e1]
    rfl
theorem split_call (f : Nat) (hf : f = 25) (s sep : ByteArray) (w : World) (hT : TT w) (hs : s.size < 4294967281) (h1 : 1 ≤ sep.size) :
    Calls Tryz.prog f #[.string s, .string sep] w fun e w' => ∃ v0_ : Value, e = .returned v0_ ∧ Kd.R Kd.string 9 w' w.heap.size (fun _ => True) v0_ (Lib.splitB sep 0 (Lib.countB s sep) s) ∧ Below w.heap.size w w' := by
  subst hf
  obtain ⟨m, hm⟩ := hT.2
  refine (Tryz.strings_Split s sep m w hs hm h1).mono ?_
  rintro e w' ⟨rfl, rfl⟩
  have hl := Lib.splitB_all sep h1 0 _ s rfl
  have hle := Lib.countB_le sep h1 s.size s (Nat.le_refl _)
  refine ⟨_, rfl, ?_, (Below.refl _ _).alloc (Nat.le_refl _) _⟩
  rw [← hl]
  exact row_of w _ _ _ _ (Nat.le_refl _) (by unfold maxLen; omega) (by simp) (by rw [List.toList_toArray]; exact List.take_of_length_le (by simp))
theorem index_call (f : Nat) (hf : f = 26) (s : ByteArray) (c : Int) (w : World) :
    Calls Tryz.prog f #[.string s, .int .u8 c] w fun e w' => e = .returned (.int .i64 (Lib.indexByte s.data.toList c.toNat.toUInt8)) ∧ Below w.heap.size w w' := by
  subst hf
  refine (Tryz.strings_IndexByte s c w).mono ?_
  rintro e w' ⟨rfl, rfl⟩
  exact ⟨rfl, Below.refl _ _⟩
end Go.Proofs.YtcblnnfodpglaaaGreatDoor.Tt
