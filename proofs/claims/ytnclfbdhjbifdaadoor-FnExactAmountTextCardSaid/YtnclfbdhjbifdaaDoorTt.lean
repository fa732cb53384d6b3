/- Words for this claim: the table of tens that the library's numerals read, along the worlds of a call. -/
import Derived.Test.YtnclfbdhjbifdaaDoorRows
import Derived.Test.YtnclfbdhjbifdaaDoorShelf
import Derived.Test.YtnclfbdhjbifdaaDoorWWords
import Derived.Lib.AppendIntMem
import Derived.Lib.LaidTab
namespace Go.Proofs.YtnclfbdhjbifdaaDoor.Tt
open Go Go.RowKit Go.Proofs.YtnclfbdhjbifdaaDoorW.PrintWords
set_option linter.unusedVariables false

def TT (w : World) : Prop := Lib.TabIs Tryd.prog w "internal/strconv.uint64pow10" .u64 Lib.pow10Tab

theorem TT_on {w w' : World} (h : TT w) (hb : Below w.heap.size w w') : TT w' := Lib.tabBelow_of_tabIs h w' hb

theorem fmt_call (f : Nat) (hf : f = 13) (n : Int) (w : World) (hT : TT w) (h0 : -9223372036854775808 ≤ n) (h1 : n ≤ 9223372036854775807) :
    Calls Tryd.prog f #[.int .i64 n, .int .i64 10] w fun e w' => e = .returned (.string ⟨(Lib.itoa n).toArray⟩) ∧ Below w.heap.size w w' := by
  subst hf
  refine (Tryd.strconv_FormatInt_10 n h0 h1 w hT).mono ?_
  rintro e w' ⟨he, k, os, rfl⟩
  exact ⟨he, Lib.below_grow _ _ (Nat.le_refl _) k os⟩
theorem cell_addr {w : World} {a : Addr} {v : Value} (h : w.cell? a = some v) : a.spot = none ∧ a.block < w.heap.size := by
  unfold World.cell? at h
  split at h
  · rename_i c e f hb
    split at h
    · cases h
    · rename_i hs
      refine ⟨by simpa using hs, ?_⟩
      rcases Nat.lt_or_ge a.block w.heap.size with h1 | h1
      · exact h1
      · rw [Array.getElem?_eq_none h1] at hb
        cases hb
  · cases h

theorem join_call (f : Nat) (hf : f = 10) (A0 : Option Addr) (c0 : Nat) (l0 : List ByteArray) (a1 : ByteArray) (w : World)
    (h1 : l0.length ≤ 140737488355328) (h2 : (Lib.join (l0.map (·.data.toList)) a1.data.toList).length ≤ 140737488355328)
    (hr : Kd.C Kd.string w A0 l0.length l0) (hc : l0.length ≤ c0) :
    Calls Tryd.prog f #[.slice A0 l0.length c0, .string a1] w fun e w' => e = .returned (.string ⟨(Lib.join (l0.map (·.data.toList)) a1.data.toList).toArray⟩) ∧ Below w.heap.size w w' := by
  subst hf
  cases l0 with
  | nil =>
    refine (Tryd.strings_Join_none A0 c0 a1 w).mono ?_
    rintro e w' ⟨he, rfl⟩
    exact ⟨he, Below.refl _ _⟩
  | cons x l =>
    obtain ⟨ad, rfl, hcell⟩ := hr.2.2 (by simp)
    have hadd : ∀ (j : Nat) y, (x :: l)[j]? = some y → w.cell? (ad.add j) = some (.string y) := by
      intro j y hj
      obtain ⟨cs, hl, hR, hcc⟩ := hcell j y hj
      obtain rfl : cs = [.string y] := hR
      have := hcc 0 _ rfl
      simpa [Kd.string, Kd.scalar] using this
    have hs := cell_addr (show w.cell? ad = some (.string x) by simpa [Addr.add] using hadd 0 x rfl)
    obtain ⟨b, o, s⟩ := ad
    obtain rfl : s = none := hs.1
    have hcells : ∀ (j : Nat) y, (x :: l)[j]? = some y → w.cell? ⟨b, o + j, none⟩ = some (.string y) := by
      intro j y hj
      have h := hadd j y hj
      unfold Addr.add at h
      split at h
      · rename_i h0
        subst h0
        exact h
      · exact h
    exact Tryd.strings_Join b o c0 (x :: l) a1 w hcells hs.2 h1 hc h2
end Go.Proofs.YtnclfbdhjbifdaaDoor.Tt
