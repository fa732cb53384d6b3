/- Bits of small whole numbers. -/
import Derived.Test.YtcghnnhhgngddaaDoorMZeroGroupsx0
import Derived.Laws.BitsAllLaws
import Derived.Test.YtcghnnhhgngddaaDoorEv
import Derived.Test.YtcghnnhhgngddaaDoorPuSubZeroGroups
namespace Go.Proofs.YtcghnnhhgngddaaDoor.PuBitNZeroGroups
open Go.RowKit Go.Proofs.YtcghnnhhgngddaaDoor.MZeroGroups Go.Proofs.YtcghnnhhgngddaaDoorW.PrintWords Go.Proofs.YtcghnnhhgngddaaDoorW.PrintLast Go.Proofs.YtcghnnhhgngddaaDoorW.PrintMore Go.Proofs.YtcghnnhhgngddaaDoor.Evs Go.Proofs.YtcghnnhhgngddaaDoor.PuSubZeroGroups
set_option linter.unusedVariables false
set_option linter.unusedSimpArgs false
theorem and_n (a b : Nat) (ha : a < 1048576) (hb : b < 1048576) : Go.bits .and .i64 (a : Int) (b : Int) = ((a &&& b : Nat) : Int) := by
  have hx : a &&& b < 2 ^ 20 := Nat.and_lt_two_pow _ (by omega)
  show IntKind.i64.wrap ((BitVec.ofInt 64 (a : Int) &&& BitVec.ofInt 64 (b : Int)).toNat : Int) = _
  rw [BitVec.toNat_and, ofInt_u64 a (by omega), ofInt_u64 b (by omega), i64_w, wrap_id (by omega) (by omega)]
theorem andNot_n (a b : Nat) (h : Sb b a) (ha : a < 1048576) : Go.bits .andNot .i64 (a : Int) (b : Int) = ((a - b : Nat) : Int) := by
  have hb := Sb_le h
  have e : a &&& (18446744073709551615 - b) = a - b := by
    apply Nat.eq_of_testBit_eq; intro i
    rw [Nat.testBit_and, sub_bit (a + 1) a b (by omega) h]
    by_cases hi : i < 64
    · have : (18446744073709551615 - b).testBit i = !b.testBit i := by
        have := Nat.testBit_two_pow_sub_succ (x := b) (n := 64) (by omega) i
        rw [show 18446744073709551615 - b = 2 ^ 64 - (b + 1) by omega, this]; simp [hi]
      rw [this]
    · have : a.testBit i = false := Nat.testBit_lt_two_pow (Nat.lt_of_lt_of_le (by omega : a < 2 ^ 20) (Nat.pow_le_pow_right (by omega) (by omega)))
      rw [this]; rfl
  show IntKind.i64.wrap ((BitVec.ofInt 64 (a : Int) &&& ~~~BitVec.ofInt 64 (b : Int)).toNat : Int) = _
  rw [BitVec.toNat_and, BitVec.toNat_not, ofInt_u64 a (by omega), ofInt_u64 b (by omega), i64_w]
  have e2 : 2 ^ 64 - 1 - b = 18446744073709551615 - b := by omega
  rw [e2, e, wrap_id (by omega) (by omega)]
theorem shl_n (n : Nat) (h : n ≤ 10) : shl .i64 1 (n : Int) = ((2 ^ n : Nat) : Int) := by
  unfold shl
  rw [i64_w, Int.toNat_natCast]
  have : ∀ m, m ≤ 10 → wrap64 (1 * 2 ^ min m 64) = ((2 ^ m : Nat) : Int) := by decide +kernel
  exact this n h
theorem shr_n (s k : Nat) (hk : k < 64) : shr .i64 (s : Int) (k : Int) = ((s / 2 ^ k : Nat) : Int) := by
  unfold shr
  rw [Int.toNat_natCast, Nat.min_eq_left (by show k ≤ 64; omega)]
  simp
theorem u64_n (k : Nat) (hk : k < 64) : IntKind.u64.wrap (k : Int) = (k : Int) := by rw [IntKind.wrap_u64]; omega
theorem odd_n (s k : Nat) (hk : k < 64) : Int.tmod (shr .i64 (s : Int) (k : Int)) 2 = 1 ↔ s.testBit k = true := by
  rw [shr_n s k hk, show Int.tmod ((s / 2 ^ k : Nat) : Int) 2 = ((s / 2 ^ k % 2 : Nat) : Int) from rfl, Nat.testBit_eq_decide_div_mod_eq, decide_eq_true_iff]
  omega
end Go.Proofs.YtcghnnhhgngddaaDoor.PuBitNZeroGroups
