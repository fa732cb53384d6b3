/- Strings as lists of bytes, and decimal numerals: the reference's and the library's are one. -/
import Derived.Test.YtfjmljgbdejghaaDoorMReadHalfx0
import Derived.Test.YtfjmljgbdejghaaDoorVReadHalfEv
import Derived.Lib.ItoaNum
import Derived.Lib.Join
namespace Go.Proofs.YtfjmljgbdejghaaDoor.PuBytReadHalf
open Go.RowKit Go.Proofs.YtfjmljgbdejghaaDoor.MReadHalf Go.Proofs.YtfjmljgbdejghaaDoorW.PrintWords Go.Proofs.YtfjmljgbdejghaaDoorW.PrintLast Go.Proofs.YtfjmljgbdejghaaDoor.Evs
set_option linter.unusedVariables false
set_option linter.unusedSimpArgs false

def mkB (l : List UInt8) : ByteArray := ⟨l.toArray⟩
theorem mkB_size (l : List UInt8) : (mkB l).size = l.length := by simp [mkB, ByteArray.size]
theorem mkB_toList (l : List UInt8) : (mkB l).toList = l := by rw [ByteArray.toList_eq]; simp [mkB]
theorem mkB_data (l : List UInt8) : (mkB l).data.toList = l := by simp [mkB]
theorem mkB_append (a b : List UInt8) : mkB a ++ mkB b = mkB (a ++ b) := by
  apply ByteArray.ext
  rw [ByteArray.data_append]
  simp [mkB]
theorem mkB_of (s : ByteArray) : mkB s.data.toList = s := by simp [mkB]
theorem mkB_inj {a b : List UInt8} (h : mkB a = mkB b) : a = b := by rw [← mkB_data a, h, mkB_data]
theorem mkB_nil_iff (l : List UInt8) : ((mkB l).toList = ([] : List UInt8)) ↔ l = [] := by rw [mkB_toList]
theorem mkB_eq (l : List UInt8) : (⟨l.toArray⟩ : ByteArray) = mkB l := rfl

def decB (n : Nat) : ByteArray := mkB (Lib.decDigits n)
theorem dec_small {n : Nat} (h : n < 10) : Lib.decDigits n = [UInt8.ofNat (48 + n)] := Lib.decDigits_one h
theorem dec_big {n : Nat} (h : ¬ n < 10) : Lib.decDigits n = Lib.decDigits (n / 10) ++ [UInt8.ofNat (48 + n % 10)] := by rw [Lib.decDigits, dif_neg h]
theorem dec_len (m : Nat) : ∀ n : Nat, n < 10 ^ (m + 1) → (Lib.decDigits n).length ≤ m + 1 := by
  induction m with
  | zero => intro n hn; rw [dec_small (by omega)]; simp
  | succ m ih =>
    intro n hn
    by_cases h : n < 10
    · rw [dec_small h]; simp
    · rw [dec_big h, List.length_append]
      have : n / 10 < 10 ^ (m + 1) := by rw [Nat.div_lt_iff_lt_mul (by omega)]; rw [Nat.pow_succ] at hn; exact hn
      have := ih _ this
      simp
      omega
theorem dec_ne (n : Nat) : Lib.decDigits n ≠ [] := by
  by_cases h : n < 10
  · rw [dec_small h]; simp
  · rw [dec_big h]; simp
theorem dec_pos (n : Nat) : 0 < (Lib.decDigits n).length := List.length_pos_iff.2 (dec_ne n)
theorem digitB (n : Nat) : strOfNums [(wrap64 (48 + (Int.tmod (n : Int) 10))) % 256] = mkB [UInt8.ofNat (48 + n % 10)] := by
  have h1 : Int.tmod (n : Int) 10 = ((n % 10 : Nat) : Int) := by rw [Int.tmod_eq_emod_of_nonneg (by omega)]; omega
  rw [h1, wrap_id (by omega) (by omega)]
  have h2 : ((48 + ((n % 10 : Nat) : Int)) % 256).toNat = 48 + n % 10 := by omega
  simp only [strOfNums, mkB, List.map_cons, List.map_nil, h2]

end Go.Proofs.YtfjmljgbdejghaaDoor.PuBytReadHalf
