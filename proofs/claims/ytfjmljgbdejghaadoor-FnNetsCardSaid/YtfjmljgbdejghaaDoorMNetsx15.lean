-- by a program of this session, for this claim
import Derived.Test.YtfjmljgbdejghaaDoorMNetsx0
import Derived.Test.YtfjmljgbdejghaaDoorMNetsx2
import Derived.Test.YtfjmljgbdejghaaDoorMNetsx3
import Derived.Test.YtfjmljgbdejghaaDoorMNetsx4
import Derived.Test.YtfjmljgbdejghaaDoorMNetsx5
import Derived.Test.YtfjmljgbdejghaaDoorMNetsx6
import Derived.Test.YtfjmljgbdejghaaDoorMNetsx8
import Derived.Test.YtfjmljgbdejghaaDoorMNetsx9
import Derived.Test.YtfjmljgbdejghaaDoorMNetsx10
import Derived.Test.YtfjmljgbdejghaaDoorMNetsx11
import Derived.Test.YtfjmljgbdejghaaDoorMNetsx12
import Derived.Test.YtfjmljgbdejghaaDoorMNetsx13
import Derived.Test.YtfjmljgbdejghaaDoorMNetsx14
namespace Go.Proofs.YtfjmljgbdejghaaDoor.MNets
open Go.RowKit Go.Proofs.YtfjmljgbdejghaaDoorW.PrintWords Go.Proofs.YtfjmljgbdejghaaDoorW.PrintLast Go.Proofs.YtfjmljgbdejghaaDoorW.PrintMore
abbrev t_ : Bool := true
abbrev f_ : Bool := false
attribute [local go_sem] max2_int min2_int max_two min_two max_three min_three max_four min_four   -- for this text's walks alone
set_option linter.unusedVariables false
set_option linter.unusedSimpArgs false

/-! ### laws_FnNets: function 9 -/
mutual
def laws_FnNets.j0 : Nat → Int → List (S77) → List Int → List (S77) → List (S77) → Bool → Option (Bool)
  | 0, _, _, _, _, _, _ => none
  | k + 1, x3, x4, x7, x11, x15, x152 => if x152 = true then (some false) else ((impl_NetsOf.f k x3 x11).bind fun bt392 => ((impl_NetsOf.f k x3 x15).bind fun bt396 => ((impl_SumOfDebts.f k x3 x4).bind fun bt400 => ((impl_SumOfDebts.f k x3 x11).bind fun bt402 => (if bt392.2 = 0 then (if bt396.2 = 0 then ((spec_A2Same.f k bt392.1 x7).bind fun t404 => (if t404 = true then ((spec_A2Same.f k bt396.1 x7).bind fun t405 => (if t405 = true then (if bt400.2 = 0 then (if bt402.2 = 0 then (laws_FnNets.j1 k x3 x4 x11 x15 (bt400.1 != bt402.1)) else (laws_FnNets.j1 k x3 x4 x11 x15 true)) else (laws_FnNets.j1 k x3 x4 x11 x15 true)) else (laws_FnNets.j1 k x3 x4 x11 x15 true))) else (laws_FnNets.j1 k x3 x4 x11 x15 true))) else (laws_FnNets.j1 k x3 x4 x11 x15 true)) else (laws_FnNets.j1 k x3 x4 x11 x15 true))))))
def laws_FnNets.j1 : Nat → Int → List (S77) → List (S77) → List (S77) → Bool → Option (Bool)
  | 0, _, _, _, _, _ => none
  | k + 1, x3, x4, x11, x15, x207 => if x207 = true then (some false) else (laws_FnNets.l0 k x3 x4 x11 x15 0)
def laws_FnNets.l0 : Nat → Int → List (S77) → List (S77) → List (S77) → Int → Option (Bool)
  | 0, _, _, _, _, _ => none
  | k + 1, x3, x4, x11, x15, x27 => if x27 < (x11.length : Int) then (if 0 ≤ x27 then ((impl_OwedBetween.f k x3 x4 ((rd_T77 x11 x27).f0) ((rd_T77 x11 x27).f1)).bind fun bt408 => (if bt408.2 = 0 then (if bt408.1 = ((rd_T77 x11 x27).f2) then (if x27 > 0 then (if 0 ≤ (wrap64 (x27 - 1)) then (if (wrap64 (x27 - 1)) < (x11.length : Int) then (if ((rd_T77 x11 x27).f0) < ((rd_T77 x11 (wrap64 (x27 - 1))).f0) then (some false) else (if ((rd_T77 x11 x27).f0) = ((rd_T77 x11 (wrap64 (x27 - 1))).f0) then (if ((rd_T77 x11 x27).f1) ≤ ((rd_T77 x11 (wrap64 (x27 - 1))).f1) then (some false) else (laws_FnNets.l0 k x3 x4 x11 x15 (wrap64 (x27 + 1)))) else (laws_FnNets.l0 k x3 x4 x11 x15 (wrap64 (x27 + 1))))) else (none)) else (none)) else (laws_FnNets.l0 k x3 x4 x11 x15 (wrap64 (x27 + 1)))) else (some false)) else (some false))) else (none)) else (laws_FnNets.l1 k x3 x15 0)
def laws_FnNets.l1 : Nat → Int → List (S77) → Int → Option (Bool)
  | 0, _, _, _ => none
  | k + 1, x3, x15, x30 => if x30 < (x15.length : Int) then (if 0 ≤ x30 then ((impl_OwedBetween.f k x3 x15 ((rd_T77 x15 x30).f1) ((rd_T77 x15 x30).f0)).bind fun bt419 => (if bt419.2 = 0 then (if bt419.1 = 0 then (laws_FnNets.l1 k x3 x15 (wrap64 (x30 + 1))) else (some false)) else (some false))) else (none)) else (some true)
end
def laws_FnNets.f (k : Nat) (l0 : List Int) : Option (Bool) := (laws_a2Long.f l0 l0).bind fun t351 => (if t351 = true then (some true) else ((spec_A2Debts.f k l0).bind fun bt352 => ((impl_NetsOf.f k bt352.1 bt352.2).bind fun bt356 => ((spec_NetsOf.f k bt352.1 bt352.2).bind fun bt360 => ((impl_JoinDebts.f k bt352.1 bt352.2).bind fun bt364 => ((spec_JoinDebts.f k bt352.1 bt352.2).bind fun bt368 => ((impl_OffsetPairs.f k bt352.1 bt352.2).bind fun bt372 => ((spec_OffsetPairs.f k bt352.1 bt352.2).bind fun bt376 => ((impl_DebtsText.f k bt352.2).bind fun t380 => ((impl_ReadDebts.f k t380).bind fun bt381 => (if bt356.2 = bt360.2 then (if bt356.2 = 0 then ((spec_A2Same.f k bt356.1 bt360.1).bind fun t385 => (if t385 = true then ((spec_A2Sum.f k bt360.1).bind fun t386 => (if t386 = 0 then (if bt364.2 = bt368.2 then (if bt364.2 = 0 then ((spec_SameDebts.f k bt364.1 bt368.1).bind fun t387 => (if t387 = true then (if bt372.2 = bt376.2 then (if bt372.2 = 0 then ((spec_SameDebts.f k bt372.1 bt376.1).bind fun t388 => (if t388 = true then (if bt381.2 = 0 then ((impl_SameDebts.f k bt381.1 bt352.2).bind fun t389 => (if t389 = true then ((spec_SameDebts.f k bt381.1 bt352.2).bind fun t390 => (if t390 = true then ((impl_ValidDebts.f k bt352.1 bt352.2).bind fun t391 => (laws_FnNets.j0 k bt352.1 bt352.2 bt360.1 bt368.1 bt376.1 (!t391))) else (laws_FnNets.j0 k bt352.1 bt352.2 bt360.1 bt368.1 bt376.1 true))) else (laws_FnNets.j0 k bt352.1 bt352.2 bt360.1 bt368.1 bt376.1 true))) else (laws_FnNets.j0 k bt352.1 bt352.2 bt360.1 bt368.1 bt376.1 true)) else (laws_FnNets.j0 k bt352.1 bt352.2 bt360.1 bt368.1 bt376.1 true))) else (laws_FnNets.j0 k bt352.1 bt352.2 bt360.1 bt368.1 bt376.1 true)) else (laws_FnNets.j0 k bt352.1 bt352.2 bt360.1 bt368.1 bt376.1 true)) else (laws_FnNets.j0 k bt352.1 bt352.2 bt360.1 bt368.1 bt376.1 true))) else (laws_FnNets.j0 k bt352.1 bt352.2 bt360.1 bt368.1 bt376.1 true)) else (laws_FnNets.j0 k bt352.1 bt352.2 bt360.1 bt368.1 bt376.1 true)) else (laws_FnNets.j0 k bt352.1 bt352.2 bt360.1 bt368.1 bt376.1 true))) else (laws_FnNets.j0 k bt352.1 bt352.2 bt360.1 bt368.1 bt376.1 true))) else (laws_FnNets.j0 k bt352.1 bt352.2 bt360.1 bt368.1 bt376.1 true)) else (laws_FnNets.j0 k bt352.1 bt352.2 bt360.1 bt368.1 bt376.1 true))))))))))))
theorem laws_FnNets.mono_l : ∀ k, (∀ y0 y1 y2 y3 y4 y5, LeO (laws_FnNets.j0 k y0 y1 y2 y3 y4 y5) (laws_FnNets.j0 (k + 1) y0 y1 y2 y3 y4 y5)) ∧ (∀ y0 y1 y2 y3 y4, LeO (laws_FnNets.j1 k y0 y1 y2 y3 y4) (laws_FnNets.j1 (k + 1) y0 y1 y2 y3 y4)) ∧ (∀ y0 y1 y2 y3 y4, LeO (laws_FnNets.l0 k y0 y1 y2 y3 y4) (laws_FnNets.l0 (k + 1) y0 y1 y2 y3 y4)) ∧ (∀ y0 y1 y2, LeO (laws_FnNets.l1 k y0 y1 y2) (laws_FnNets.l1 (k + 1) y0 y1 y2))
  | 0 => ⟨fun _ _ _ _ _ _ r h => by simp [laws_FnNets.j0] at h, fun _ _ _ _ _ r h => by simp [laws_FnNets.j1] at h, fun _ _ _ _ _ r h => by simp [laws_FnNets.l0] at h, fun _ _ _ r h => by simp [laws_FnNets.l1] at h⟩
  | k + 1 => by
    obtain ⟨ih0, ih1, ih2, ih3⟩ := laws_FnNets.mono_l k
    refine ⟨?_, ?_, ?_, ?_⟩
    · intro y0 y1 y2 y3 y4 y5
      unfold laws_FnNets.j0
      repeat' first
      | (with_reducible exact ih0 _ _ _ _ _ _)
      | (with_reducible exact ih1 _ _ _ _ _)
      | (with_reducible exact ih2 _ _ _ _ _)
      | (with_reducible exact ih3 _ _ _)
      | (with_reducible exact impl_DebtsText.mono _ _)
      | (with_reducible exact impl_JoinDebts.mono _ _ _)
      | (with_reducible exact impl_NetsOf.mono _ _ _)
      | (with_reducible exact impl_OffsetPairs.mono _ _ _)
      | (with_reducible exact impl_OwedBetween.mono _ _ _ _ _)
      | (with_reducible exact impl_ReadDebts.mono _ _)
      | (with_reducible exact impl_SameDebts.mono _ _ _)
      | (with_reducible exact impl_SumOfDebts.mono _ _ _)
      | (with_reducible exact impl_ValidDebts.mono _ _ _)
      | (with_reducible exact spec_A2Debts.mono _ _)
      | (with_reducible exact spec_A2Same.mono _ _ _)
      | (with_reducible exact spec_A2Sum.mono _ _)
      | (with_reducible exact spec_JoinDebts.mono _ _ _)
      | (with_reducible exact spec_NetsOf.mono _ _ _)
      | (with_reducible exact spec_OffsetPairs.mono _ _ _)
      | (with_reducible exact spec_SameDebts.mono _ _ _)
      | (with_reducible exact LeO.refl _)
      | (with_reducible exact LeO.none _)
      | (with_reducible refine LeO.ite ?_ ?_)
      | (with_reducible refine LeO.bind ?_ (fun _ => ?_))
      | exact ih0 _ _ _ _ _ _
      | exact ih1 _ _ _ _ _
      | exact ih2 _ _ _ _ _
      | exact ih3 _ _ _
      | exact impl_DebtsText.mono _ _
      | exact impl_JoinDebts.mono _ _ _
      | exact impl_NetsOf.mono _ _ _
      | exact impl_OffsetPairs.mono _ _ _
      | exact impl_OwedBetween.mono _ _ _ _ _
      | exact impl_ReadDebts.mono _ _
      | exact impl_SameDebts.mono _ _ _
      | exact impl_SumOfDebts.mono _ _ _
      | exact impl_ValidDebts.mono _ _ _
      | exact spec_A2Debts.mono _ _
      | exact spec_A2Same.mono _ _ _
      | exact spec_A2Sum.mono _ _
      | exact spec_JoinDebts.mono _ _ _
      | exact spec_NetsOf.mono _ _ _
      | exact spec_OffsetPairs.mono _ _ _
      | exact spec_SameDebts.mono _ _ _
      | exact LeO.none _
      | refine LeO.ite ?_ ?_
      | refine LeO.bind ?_ (fun _ => ?_)
    · intro y0 y1 y2 y3 y4
      unfold laws_FnNets.j1
      repeat' first
      | (with_reducible exact ih0 _ _ _ _ _ _)
      | (with_reducible exact ih1 _ _ _ _ _)
      | (with_reducible exact ih2 _ _ _ _ _)
      | (with_reducible exact ih3 _ _ _)
      | (with_reducible exact impl_DebtsText.mono _ _)
      | (with_reducible exact impl_JoinDebts.mono _ _ _)
      | (with_reducible exact impl_NetsOf.mono _ _ _)
      | (with_reducible exact impl_OffsetPairs.mono _ _ _)
      | (with_reducible exact impl_OwedBetween.mono _ _ _ _ _)
      | (with_reducible exact impl_ReadDebts.mono _ _)
      | (with_reducible exact impl_SameDebts.mono _ _ _)
      | (with_reducible exact impl_SumOfDebts.mono _ _ _)
      | (with_reducible exact impl_ValidDebts.mono _ _ _)
      | (with_reducible exact spec_A2Debts.mono _ _)
      | (with_reducible exact spec_A2Same.mono _ _ _)
      | (with_reducible exact spec_A2Sum.mono _ _)
      | (with_reducible exact spec_JoinDebts.mono _ _ _)
      | (with_reducible exact spec_NetsOf.mono _ _ _)
      | (with_reducible exact spec_OffsetPairs.mono _ _ _)
      | (with_reducible exact spec_SameDebts.mono _ _ _)
      | (with_reducible exact LeO.refl _)
      | (with_reducible exact LeO.none _)
      | (with_reducible refine LeO.ite ?_ ?_)
      | (with_reducible refine LeO.bind ?_ (fun _ => ?_))
      | exact ih0 _ _ _ _ _ _
      | exact ih1 _ _ _ _ _
      | exact ih2 _ _ _ _ _
      | exact ih3 _ _ _
      | exact impl_DebtsText.mono _ _
      | exact impl_JoinDebts.mono _ _ _
      | exact impl_NetsOf.mono _ _ _
      | exact impl_OffsetPairs.mono _ _ _
      | exact impl_OwedBetween.mono _ _ _ _ _
      | exact impl_ReadDebts.mono _ _
      | exact impl_SameDebts.mono _ _ _
      | exact impl_SumOfDebts.mono _ _ _
      | exact impl_ValidDebts.mono _ _ _
      | exact spec_A2Debts.mono _ _
      | exact spec_A2Same.mono _ _ _
      | exact spec_A2Sum.mono _ _
      | exact spec_JoinDebts.mono _ _ _
      | exact spec_NetsOf.mono _ _ _
      | exact spec_OffsetPairs.mono _ _ _
      | exact spec_SameDebts.mono _ _ _
      | exact LeO.none _
      | refine LeO.ite ?_ ?_
      | refine LeO.bind ?_ (fun _ => ?_)
    · intro y0 y1 y2 y3 y4
      unfold laws_FnNets.l0
      repeat' first
      | (with_reducible exact ih0 _ _ _ _ _ _)
      | (with_reducible exact ih1 _ _ _ _ _)
      | (with_reducible exact ih2 _ _ _ _ _)
      | (with_reducible exact ih3 _ _ _)
      | (with_reducible exact impl_DebtsText.mono _ _)
      | (with_reducible exact impl_JoinDebts.mono _ _ _)
      | (with_reducible exact impl_NetsOf.mono _ _ _)
      | (with_reducible exact impl_OffsetPairs.mono _ _ _)
      | (with_reducible exact impl_OwedBetween.mono _ _ _ _ _)
      | (with_reducible exact impl_ReadDebts.mono _ _)
      | (with_reducible exact impl_SameDebts.mono _ _ _)
      | (with_reducible exact impl_SumOfDebts.mono _ _ _)
      | (with_reducible exact impl_ValidDebts.mono _ _ _)
      | (with_reducible exact spec_A2Debts.mono _ _)
      | (with_reducible exact spec_A2Same.mono _ _ _)
      | (with_reducible exact spec_A2Sum.mono _ _)
      | (with_reducible exact spec_JoinDebts.mono _ _ _)
      | (with_reducible exact spec_NetsOf.mono _ _ _)
      | (with_reducible exact spec_OffsetPairs.mono _ _ _)
      | (with_reducible exact spec_SameDebts.mono _ _ _)
      | (with_reducible exact LeO.refl _)
      | (with_reducible exact LeO.none _)
      | (with_reducible refine LeO.ite ?_ ?_)
      | (with_reducible refine LeO.bind ?_ (fun _ => ?_))
      | exact ih0 _ _ _ _ _ _
      | exact ih1 _ _ _ _ _
      | exact ih2 _ _ _ _ _
      | exact ih3 _ _ _
      | exact impl_DebtsText.mono _ _
      | exact impl_JoinDebts.mono _ _ _
      | exact impl_NetsOf.mono _ _ _
      | exact impl_OffsetPairs.mono _ _ _
      | exact impl_OwedBetween.mono _ _ _ _ _
      | exact impl_ReadDebts.mono _ _
      | exact impl_SameDebts.mono _ _ _
      | exact impl_SumOfDebts.mono _ _ _
      | exact impl_ValidDebts.mono _ _ _
      | exact spec_A2Debts.mono _ _
      | exact spec_A2Same.mono _ _ _
      | exact spec_A2Sum.mono _ _
      | exact spec_JoinDebts.mono _ _ _
      | exact spec_NetsOf.mono _ _ _
      | exact spec_OffsetPairs.mono _ _ _
      | exact spec_SameDebts.mono _ _ _
      | exact LeO.none _
      | refine LeO.ite ?_ ?_
      | refine LeO.bind ?_ (fun _ => ?_)
    · intro y0 y1 y2
      unfold laws_FnNets.l1
      repeat' first
      | (with_reducible exact ih0 _ _ _ _ _ _)
      | (with_reducible exact ih1 _ _ _ _ _)
      | (with_reducible exact ih2 _ _ _ _ _)
      | (with_reducible exact ih3 _ _ _)
      | (with_reducible exact impl_DebtsText.mono _ _)
      | (with_reducible exact impl_JoinDebts.mono _ _ _)
      | (with_reducible exact impl_NetsOf.mono _ _ _)
      | (with_reducible exact impl_OffsetPairs.mono _ _ _)
      | (with_reducible exact impl_OwedBetween.mono _ _ _ _ _)
      | (with_reducible exact impl_ReadDebts.mono _ _)
      | (with_reducible exact impl_SameDebts.mono _ _ _)
      | (with_reducible exact impl_SumOfDebts.mono _ _ _)
      | (with_reducible exact impl_ValidDebts.mono _ _ _)
      | (with_reducible exact spec_A2Debts.mono _ _)
      | (with_reducible exact spec_A2Same.mono _ _ _)
      | (with_reducible exact spec_A2Sum.mono _ _)
      | (with_reducible exact spec_JoinDebts.mono _ _ _)
      | (with_reducible exact spec_NetsOf.mono _ _ _)
      | (with_reducible exact spec_OffsetPairs.mono _ _ _)
      | (with_reducible exact spec_SameDebts.mono _ _ _)
      | (with_reducible exact LeO.refl _)
      | (with_reducible exact LeO.none _)
      | (with_reducible refine LeO.ite ?_ ?_)
      | (with_reducible refine LeO.bind ?_ (fun _ => ?_))
      | exact ih0 _ _ _ _ _ _
      | exact ih1 _ _ _ _ _
      | exact ih2 _ _ _ _ _
      | exact ih3 _ _ _
      | exact impl_DebtsText.mono _ _
      | exact impl_JoinDebts.mono _ _ _
      | exact impl_NetsOf.mono _ _ _
      | exact impl_OffsetPairs.mono _ _ _
      | exact impl_OwedBetween.mono _ _ _ _ _
      | exact impl_ReadDebts.mono _ _
      | exact impl_SameDebts.mono _ _ _
      | exact impl_SumOfDebts.mono _ _ _
      | exact impl_ValidDebts.mono _ _ _
      | exact spec_A2Debts.mono _ _
      | exact spec_A2Same.mono _ _ _
      | exact spec_A2Sum.mono _ _
      | exact spec_JoinDebts.mono _ _ _
      | exact spec_NetsOf.mono _ _ _
      | exact spec_OffsetPairs.mono _ _ _
      | exact spec_SameDebts.mono _ _ _
      | exact LeO.none _
      | refine LeO.ite ?_ ?_
      | refine LeO.bind ?_ (fun _ => ?_)
theorem laws_FnNets.mono : ∀ a0 k, LeO (laws_FnNets.f k a0) (laws_FnNets.f (k + 1) a0) := by
  intro a0 k; obtain ⟨ih0, ih1, ih2, ih3⟩ := laws_FnNets.mono_l k; unfold laws_FnNets.f
  repeat' first
      | (with_reducible exact ih0 _ _ _ _ _ _)
      | (with_reducible exact ih1 _ _ _ _ _)
      | (with_reducible exact ih2 _ _ _ _ _)
      | (with_reducible exact ih3 _ _ _)
      | (with_reducible exact impl_DebtsText.mono _ _)
      | (with_reducible exact impl_JoinDebts.mono _ _ _)
      | (with_reducible exact impl_NetsOf.mono _ _ _)
      | (with_reducible exact impl_OffsetPairs.mono _ _ _)
      | (with_reducible exact impl_OwedBetween.mono _ _ _ _ _)
      | (with_reducible exact impl_ReadDebts.mono _ _)
      | (with_reducible exact impl_SameDebts.mono _ _ _)
      | (with_reducible exact impl_SumOfDebts.mono _ _ _)
      | (with_reducible exact impl_ValidDebts.mono _ _ _)
      | (with_reducible exact spec_A2Debts.mono _ _)
      | (with_reducible exact spec_A2Same.mono _ _ _)
      | (with_reducible exact spec_A2Sum.mono _ _)
      | (with_reducible exact spec_JoinDebts.mono _ _ _)
      | (with_reducible exact spec_NetsOf.mono _ _ _)
      | (with_reducible exact spec_OffsetPairs.mono _ _ _)
      | (with_reducible exact spec_SameDebts.mono _ _ _)
      | (with_reducible exact LeO.refl _)
      | (with_reducible exact LeO.none _)
      | (with_reducible refine LeO.ite ?_ ?_)
      | (with_reducible refine LeO.bind ?_ (fun _ => ?_))
      | exact ih0 _ _ _ _ _ _
      | exact ih1 _ _ _ _ _
      | exact ih2 _ _ _ _ _
      | exact ih3 _ _ _
      | exact impl_DebtsText.mono _ _
      | exact impl_JoinDebts.mono _ _ _
      | exact impl_NetsOf.mono _ _ _
      | exact impl_OffsetPairs.mono _ _ _
      | exact impl_OwedBetween.mono _ _ _ _ _
      | exact impl_ReadDebts.mono _ _
      | exact impl_SameDebts.mono _ _ _
      | exact impl_SumOfDebts.mono _ _ _
      | exact impl_ValidDebts.mono _ _ _
      | exact spec_A2Debts.mono _ _
      | exact spec_A2Same.mono _ _ _
      | exact spec_A2Sum.mono _ _
      | exact spec_JoinDebts.mono _ _ _
      | exact spec_NetsOf.mono _ _ _
      | exact spec_OffsetPairs.mono _ _ _
      | exact spec_SameDebts.mono _ _ _
      | exact LeO.none _
      | refine LeO.ite ?_ ?_
      | refine LeO.bind ?_ (fun _ => ?_)
def laws_FnNets.T22 : Bool × List (List Nat × List Nat) := (true, [([], []), ([], []), ([], []), ([], []), ([2, 3], [2, 3]), ([4], [4]), ([5], [5]), ([], []), ([], []), ([7, 8], [7, 8]), ([9], [9]), ([10], [10]), ([0, 1, 6, 11], [0, 1, 6, 11]), ([12], [12]), ([13], [13]), ([13], [13]), ([14, 12, 0, 1, 2, 3, 4, 5, 6, 7, 8, 9, 10, 11, 12, 13, 14], [14]), ([15, 16, 0, 1, 2, 3, 4, 5, 6, 7, 8, 9, 10, 11, 12, 13, 14, 15, 16], [15])])
def laws_FnNets.B22 : List Nat := [0, 0, 0, 0, 12, 28, 60, 0, 0, 384, 896, 1920, 4095, 8191, 16383, 16383, 32767, 131071]
theorem laws_FnNets.tab22 : rtab .any (opsOf Tryd.f9 22) = laws_FnNets.T22 := by kernel_rfl
theorem laws_FnNets.bits22 : waitsOk laws_FnNets.T22.2 laws_FnNets.B22 = true := by kernel_rfl
def laws_FnNets.T23 : Bool × List (List Nat × List Nat) := (true, [([], []), ([0], [0]), ([1], [1]), ([2], [2]), ([2], [2]), ([2], [2]), ([4, 5, 2], [2, 4, 5]), ([6, 2], [2, 6]), ([7, 2], [2, 7]), ([3, 8, 2], [2, 3, 8]), ([2, 9], [2, 9]), ([10, 2], [10]), ([11], [11]), ([12, 11], [11, 12]), ([13, 11, 11], [11, 13]), ([14], [14]), ([14], [14]), ([15, 16, 14], [14, 15, 16]), ([17, 14], [14, 17]), ([18, 14], [14, 18]), ([14], [14]), ([14], [14]), ([21, 14], [14, 21]), ([20, 22, 14], [14, 20, 22]), ([23, 14], [14, 23]), ([24, 14], [14, 24]), ([19, 25, 14], [14, 19, 25]), ([26, 14, 14], [14, 26]), ([27], [27]), ([27], [27]), ([28, 29, 27], [27, 28, 29]), ([30, 27], [27, 30]), ([31, 27], [27, 31]), ([27], [27]), ([27], [27]), ([34, 27], [27, 34]), ([33, 35, 27], [27, 33, 35]), ([36, 27], [27, 36]), ([37, 27], [27, 37]), ([32, 38, 27], [27, 32, 38]), ([39, 27, 27], [27, 39]), ([40], [40]), ([40], [40]), ([41, 42, 40], [40, 41, 42]), ([43, 40], [40, 43]), ([44, 40], [40, 44]), ([40], [40]), ([40], [40]), ([47, 40], [40, 47]), ([46, 48, 40], [40, 46, 48]), ([49, 40], [40, 49]), ([50, 40], [40, 50]), ([45, 51, 40], [40, 45, 51]), ([40, 52, 27], [27, 40, 52]), ([27, 53, 14], [14, 27, 53]), ([14, 54, 11], [11, 14, 54]), ([11, 55], [11, 55])])
def laws_FnNets.B23 : List Nat := [0, 1, 3, 7, 7, 7, 55, 119, 247, 511, 1023, 2047, 4095, 8191, 16383, 32767, 32767, 131071, 262143, 524287, 32767, 32767, 2129919, 7372799, 15761407, 32538623, 67108863, 134217727, 268435455, 268435455, 1073741823, 2147483647, 4294967295, 268435455, 268435455, 17448304639, 60397977599, 129117454335, 266556407807, 549755813887, 1099511627775, 2199023255551, 2199023255551, 8796093022207, 17592186044415, 35184372088831, 2199023255551, 2199023255551, 142936511610879, 494780232499199, 1057730185920511, 2183630092763135, 4503599627370495, 9007199254740991, 18014398509481983, 36028797018963967, 72057594037927935]
theorem laws_FnNets.tab23 : rtab .any (opsOf Tryd.f9 23) = laws_FnNets.T23 := by kernel_rfl
theorem laws_FnNets.bits23 : waitsOk laws_FnNets.T23.2 laws_FnNets.B23 = true := by kernel_rfl
def laws_FnNets.T28 : Bool × List (List Nat × List Nat) := (true, [([], []), ([], []), ([], []), ([], []), ([2, 3], [2, 3]), ([4], [4]), ([5], [5]), ([], []), ([], []), ([7, 8], [7, 8]), ([9], [9]), ([10], [10]), ([0, 1, 6, 11], [0, 1, 6, 11]), ([12], [12]), ([13], [13]), ([13], [13]), ([14, 12, 0, 1, 2, 3, 4, 5, 6, 7, 8, 9, 10, 11, 12, 13, 14], [14]), ([15, 16, 0, 1, 2, 3, 4, 5, 6, 7, 8, 9, 10, 11, 12, 13, 14, 15, 16], [15])])
def laws_FnNets.B28 : List Nat := [0, 0, 0, 0, 12, 28, 60, 0, 0, 384, 896, 1920, 4095, 8191, 16383, 16383, 32767, 131071]
theorem laws_FnNets.tab28 : rtab .any (opsOf Tryd.f9 28) = laws_FnNets.T28 := by kernel_rfl
theorem laws_FnNets.bits28 : waitsOk laws_FnNets.T28.2 laws_FnNets.B28 = true := by kernel_rfl
theorem laws_FnNets.no_j0 {k : Nat} {a0 : Int} {a1 : List (S77)} {a2 : List Int} {a3 : List (S77)} {a4 : List (S77)} {r : Bool} (h : laws_FnNets.j0 k a0 a1 a2 a3 a4 true = some r) (ht : r = true) : False := by
  cases k with
  | zero => simp [laws_FnNets.j0] at h
  | succ k => simp [laws_FnNets.j0] at h; rw [ht] at h; cases h
theorem laws_FnNets.no_j1 {k : Nat} {a0 : Int} {a1 : List (S77)} {a2 : List (S77)} {a3 : List (S77)} {r : Bool} (h : laws_FnNets.j1 k a0 a1 a2 a3 true = some r) (ht : r = true) : False := by
  cases k with
  | zero => simp [laws_FnNets.j1] at h
  | succ k => simp [laws_FnNets.j1] at h; rw [ht] at h; cases h
set_option maxHeartbeats 40000000 in
set_option maxRecDepth 100000 in
theorem laws_FnNets.calls (k : Nat) (A0 : Option Addr) (c0 : Nat) (l0 : List Int) (r : Bool) (w : World) (hr0 : Kd.C (Kd.int .u8) w A0 l0.length l0) (hc0 : l0.length ≤ c0) (hT : Tt.TT w) (h : laws_FnNets.f k l0 = some r) (ht : r = true) :
    Calls Tryd.prog 9 #[.slice A0 l0.length c0] w fun e w' => e = .returned (.bool r) ∧ Below w.heap.size w w' := by
  have HR0 := Aside0.mk hr0; have HC0 := Aside0.mk hc0; clear hr0 hc0; have HB := Aside0.mk (Below.refl w.heap.size w); have H : ((laws_a2Long.f l0 l0).bind fun t351 => (if t351 = true then (some true) else ((spec_A2Debts.f k l0).bind fun bt352 => ((impl_NetsOf.f k bt352.1 bt352.2).bind fun bt356 => ((spec_NetsOf.f k bt352.1 bt352.2).bind fun bt360 => ((impl_JoinDebts.f k bt352.1 bt352.2).bind fun bt364 => ((spec_JoinDebts.f k bt352.1 bt352.2).bind fun bt368 => ((impl_OffsetPairs.f k bt352.1 bt352.2).bind fun bt372 => ((spec_OffsetPairs.f k bt352.1 bt352.2).bind fun bt376 => ((impl_DebtsText.f k bt352.2).bind fun t380 => ((impl_ReadDebts.f k t380).bind fun bt381 => (if bt356.2 = bt360.2 then (if bt356.2 = 0 then ((spec_A2Same.f k bt356.1 bt360.1).bind fun t385 => (if t385 = true then ((spec_A2Sum.f k bt360.1).bind fun t386 => (if t386 = 0 then (if bt364.2 = bt368.2 then (if bt364.2 = 0 then ((spec_SameDebts.f k bt364.1 bt368.1).bind fun t387 => (if t387 = true then (if bt372.2 = bt376.2 then (if bt372.2 = 0 then ((spec_SameDebts.f k bt372.1 bt376.1).bind fun t388 => (if t388 = true then (if bt381.2 = 0 then ((impl_SameDebts.f k bt381.1 bt352.2).bind fun t389 => (if t389 = true then ((spec_SameDebts.f k bt381.1 bt352.2).bind fun t390 => (if t390 = true then ((impl_ValidDebts.f k bt352.1 bt352.2).bind fun t391 => (laws_FnNets.j0 k bt352.1 bt352.2 bt360.1 bt368.1 bt376.1 (!t391))) else (laws_FnNets.j0 k bt352.1 bt352.2 bt360.1 bt368.1 bt376.1 true))) else (laws_FnNets.j0 k bt352.1 bt352.2 bt360.1 bt368.1 bt376.1 true))) else (laws_FnNets.j0 k bt352.1 bt352.2 bt360.1 bt368.1 bt376.1 true)) else (laws_FnNets.j0 k bt352.1 bt352.2 bt360.1 bt368.1 bt376.1 true))) else (laws_FnNets.j0 k bt352.1 bt352.2 bt360.1 bt368.1 bt376.1 true)) else (laws_FnNets.j0 k bt352.1 bt352.2 bt360.1 bt368.1 bt376.1 true)) else (laws_FnNets.j0 k bt352.1 bt352.2 bt360.1 bt368.1 bt376.1 true))) else (laws_FnNets.j0 k bt352.1 bt352.2 bt360.1 bt368.1 bt376.1 true)) else (laws_FnNets.j0 k bt352.1 bt352.2 bt360.1 bt368.1 bt376.1 true)) else (laws_FnNets.j0 k bt352.1 bt352.2 bt360.1 bt368.1 bt376.1 true))) else (laws_FnNets.j0 k bt352.1 bt352.2 bt360.1 bt368.1 bt376.1 true))) else (laws_FnNets.j0 k bt352.1 bt352.2 bt360.1 bt368.1 bt376.1 true)) else (laws_FnNets.j0 k bt352.1 bt352.2 bt360.1 bt368.1 bt376.1 true))))))))))))) = some r := h; clear h; replace H := Option.bind_eq_some_iff.mp H; obtain ⟨t351, A20, H⟩ := H; replace H : (if t351 = true then (some true) else ((spec_A2Debts.f k l0).bind fun bt352 => ((impl_NetsOf.f k bt352.1 bt352.2).bind fun bt356 => ((spec_NetsOf.f k bt352.1 bt352.2).bind fun bt360 => ((impl_JoinDebts.f k bt352.1 bt352.2).bind fun bt364 => ((spec_JoinDebts.f k bt352.1 bt352.2).bind fun bt368 => ((impl_OffsetPairs.f k bt352.1 bt352.2).bind fun bt372 => ((spec_OffsetPairs.f k bt352.1 bt352.2).bind fun bt376 => ((impl_DebtsText.f k bt352.2).bind fun t380 => ((impl_ReadDebts.f k t380).bind fun bt381 => (if bt356.2 = bt360.2 then (if bt356.2 = 0 then ((spec_A2Same.f k bt356.1 bt360.1).bind fun t385 => (if t385 = true then ((spec_A2Sum.f k bt360.1).bind fun t386 => (if t386 = 0 then (if bt364.2 = bt368.2 then (if bt364.2 = 0 then ((spec_SameDebts.f k bt364.1 bt368.1).bind fun t387 => (if t387 = true then (if bt372.2 = bt376.2 then (if bt372.2 = 0 then ((spec_SameDebts.f k bt372.1 bt376.1).bind fun t388 => (if t388 = true then (if bt381.2 = 0 then ((impl_SameDebts.f k bt381.1 bt352.2).bind fun t389 => (if t389 = true then ((spec_SameDebts.f k bt381.1 bt352.2).bind fun t390 => (if t390 = true then ((impl_ValidDebts.f k bt352.1 bt352.2).bind fun t391 => (laws_FnNets.j0 k bt352.1 bt352.2 bt360.1 bt368.1 bt376.1 (!t391))) else (laws_FnNets.j0 k bt352.1 bt352.2 bt360.1 bt368.1 bt376.1 true))) else (laws_FnNets.j0 k bt352.1 bt352.2 bt360.1 bt368.1 bt376.1 true))) else (laws_FnNets.j0 k bt352.1 bt352.2 bt360.1 bt368.1 bt376.1 true)) else (laws_FnNets.j0 k bt352.1 bt352.2 bt360.1 bt368.1 bt376.1 true))) else (laws_FnNets.j0 k bt352.1 bt352.2 bt360.1 bt368.1 bt376.1 true)) else (laws_FnNets.j0 k bt352.1 bt352.2 bt360.1 bt368.1 bt376.1 true)) else (laws_FnNets.j0 k bt352.1 bt352.2 bt360.1 bt368.1 bt376.1 true))) else (laws_FnNets.j0 k bt352.1 bt352.2 bt360.1 bt368.1 bt376.1 true)) else (laws_FnNets.j0 k bt352.1 bt352.2 bt360.1 bt368.1 bt376.1 true)) else (laws_FnNets.j0 k bt352.1 bt352.2 bt360.1 bt368.1 bt376.1 true))) else (laws_FnNets.j0 k bt352.1 bt352.2 bt360.1 bt368.1 bt376.1 true))) else (laws_FnNets.j0 k bt352.1 bt352.2 bt360.1 bt368.1 bt376.1 true)) else (laws_FnNets.j0 k bt352.1 bt352.2 bt360.1 bt368.1 bt376.1 true)))))))))))) = some r := H; have A2 := Aside0.mk A20; clear A20; by_cases c3 : t351 = true
  ·subst c3; rw [if_pos rfl] at H
   as_aux_lemma =>
     obtain rfl := Option.some.inj H; go_enter Tryd.func9, Tryd.ntmps9; go_wp2_with (first | ((with_reducible refine gate_callee (f := 30) rfl ?_); refine goesL_ (some 35) rfl rfl Tryd.func30 z4_ rfl #[.slice A0 l0.length c0, .slice A0 l0.length c0] rfl z1_ ?_; (with_reducible refine (laws_a2Long.calls _ _ l0 _ _ l0 true _ ?side1 ?side2 ?side3 ?side4 A2.out).mono ?_); (case side1 => repeat (first | exact HR0.out | (with_reducible refine Kd.C_alloc ?_ _) | (with_reducible refine Kd.C_drewN ?_ _) | (with_reducible refine Kd.C_drew ?_))); (case side2 => exact HC0.out); (case side3 => repeat (first | exact HR0.out | (with_reducible refine Kd.C_alloc ?_ _) | (with_reducible refine Kd.C_drewN ?_ _) | (with_reducible refine Kd.C_drew ?_))); (case side4 => exact HC0.out); rintro e w' ⟨rfl, ⟨nd, rfl⟩⟩; refine ⟨_, rfl, ?_⟩)); go_ret; exact ⟨z3_, z0_⟩
  replace c3 := Bool.eq_false_iff.mpr c3; subst c3; rw [if_neg (show ¬ (false = true) by decide)] at H; replace H := Option.bind_eq_some_iff.mp H; obtain ⟨⟨t352, t353⟩, A40, H⟩ := H; replace H : ((impl_NetsOf.f k t352 t353).bind fun bt356 => ((spec_NetsOf.f k t352 t353).bind fun bt360 => ((impl_JoinDebts.f k t352 t353).bind fun bt364 => ((spec_JoinDebts.f k t352 t353).bind fun bt368 => ((impl_OffsetPairs.f k t352 t353).bind fun bt372 => ((spec_OffsetPairs.f k t352 t353).bind fun bt376 => ((impl_DebtsText.f k t353).bind fun t380 => ((impl_ReadDebts.f k t380).bind fun bt381 => (if bt356.2 = bt360.2 then (if bt356.2 = 0 then ((spec_A2Same.f k bt356.1 bt360.1).bind fun t385 => (if t385 = true then ((spec_A2Sum.f k bt360.1).bind fun t386 => (if t386 = 0 then (if bt364.2 = bt368.2 then (if bt364.2 = 0 then ((spec_SameDebts.f k bt364.1 bt368.1).bind fun t387 => (if t387 = true then (if bt372.2 = bt376.2 then (if bt372.2 = 0 then ((spec_SameDebts.f k bt372.1 bt376.1).bind fun t388 => (if t388 = true then (if bt381.2 = 0 then ((impl_SameDebts.f k bt381.1 t353).bind fun t389 => (if t389 = true then ((spec_SameDebts.f k bt381.1 t353).bind fun t390 => (if t390 = true then ((impl_ValidDebts.f k t352 t353).bind fun t391 => (laws_FnNets.j0 k t352 t353 bt360.1 bt368.1 bt376.1 (!t391))) else (laws_FnNets.j0 k t352 t353 bt360.1 bt368.1 bt376.1 true))) else (laws_FnNets.j0 k t352 t353 bt360.1 bt368.1 bt376.1 true))) else (laws_FnNets.j0 k t352 t353 bt360.1 bt368.1 bt376.1 true)) else (laws_FnNets.j0 k t352 t353 bt360.1 bt368.1 bt376.1 true))) else (laws_FnNets.j0 k t352 t353 bt360.1 bt368.1 bt376.1 true)) else (laws_FnNets.j0 k t352 t353 bt360.1 bt368.1 bt376.1 true)) else (laws_FnNets.j0 k t352 t353 bt360.1 bt368.1 bt376.1 true))) else (laws_FnNets.j0 k t352 t353 bt360.1 bt368.1 bt376.1 true)) else (laws_FnNets.j0 k t352 t353 bt360.1 bt368.1 bt376.1 true)) else (laws_FnNets.j0 k t352 t353 bt360.1 bt368.1 bt376.1 true))) else (laws_FnNets.j0 k t352 t353 bt360.1 bt368.1 bt376.1 true))) else (laws_FnNets.j0 k t352 t353 bt360.1 bt368.1 bt376.1 true)) else (laws_FnNets.j0 k t352 t353 bt360.1 bt368.1 bt376.1 true)))))))))) = some r := H; have A4 := Aside0.mk A40; clear A40; replace H := Option.bind_eq_some_iff.mp H; obtain ⟨⟨t356, t357⟩, A50, H⟩ := H; replace H : ((spec_NetsOf.f k t352 t353).bind fun bt360 => ((impl_JoinDebts.f k t352 t353).bind fun bt364 => ((spec_JoinDebts.f k t352 t353).bind fun bt368 => ((impl_OffsetPairs.f k t352 t353).bind fun bt372 => ((spec_OffsetPairs.f k t352 t353).bind fun bt376 => ((impl_DebtsText.f k t353).bind fun t380 => ((impl_ReadDebts.f k t380).bind fun bt381 => (if t357 = bt360.2 then (if t357 = 0 then ((spec_A2Same.f k t356 bt360.1).bind fun t385 => (if t385 = true then ((spec_A2Sum.f k bt360.1).bind fun t386 => (if t386 = 0 then (if bt364.2 = bt368.2 then (if bt364.2 = 0 then ((spec_SameDebts.f k bt364.1 bt368.1).bind fun t387 => (if t387 = true then (if bt372.2 = bt376.2 then (if bt372.2 = 0 then ((spec_SameDebts.f k bt372.1 bt376.1).bind fun t388 => (if t388 = true then (if bt381.2 = 0 then ((impl_SameDebts.f k bt381.1 t353).bind fun t389 => (if t389 = true then ((spec_SameDebts.f k bt381.1 t353).bind fun t390 => (if t390 = true then ((impl_ValidDebts.f k t352 t353).bind fun t391 => (laws_FnNets.j0 k t352 t353 bt360.1 bt368.1 bt376.1 (!t391))) else (laws_FnNets.j0 k t352 t353 bt360.1 bt368.1 bt376.1 true))) else (laws_FnNets.j0 k t352 t353 bt360.1 bt368.1 bt376.1 true))) else (laws_FnNets.j0 k t352 t353 bt360.1 bt368.1 bt376.1 true)) else (laws_FnNets.j0 k t352 t353 bt360.1 bt368.1 bt376.1 true))) else (laws_FnNets.j0 k t352 t353 bt360.1 bt368.1 bt376.1 true)) else (laws_FnNets.j0 k t352 t353 bt360.1 bt368.1 bt376.1 true)) else (laws_FnNets.j0 k t352 t353 bt360.1 bt368.1 bt376.1 true))) else (laws_FnNets.j0 k t352 t353 bt360.1 bt368.1 bt376.1 true)) else (laws_FnNets.j0 k t352 t353 bt360.1 bt368.1 bt376.1 true)) else (laws_FnNets.j0 k t352 t353 bt360.1 bt368.1 bt376.1 true))) else (laws_FnNets.j0 k t352 t353 bt360.1 bt368.1 bt376.1 true))) else (laws_FnNets.j0 k t352 t353 bt360.1 bt368.1 bt376.1 true)) else (laws_FnNets.j0 k t352 t353 bt360.1 bt368.1 bt376.1 true))))))))) = some r := H; have A5 := Aside0.mk A50; clear A50; replace H := Option.bind_eq_some_iff.mp H; obtain ⟨⟨t360, t361⟩, A60, H⟩ := H; replace H : ((impl_JoinDebts.f k t352 t353).bind fun bt364 => ((spec_JoinDebts.f k t352 t353).bind fun bt368 => ((impl_OffsetPairs.f k t352 t353).bind fun bt372 => ((spec_OffsetPairs.f k t352 t353).bind fun bt376 => ((impl_DebtsText.f k t353).bind fun t380 => ((impl_ReadDebts.f k t380).bind fun bt381 => (if t357 = t361 then (if t357 = 0 then ((spec_A2Same.f k t356 t360).bind fun t385 => (if t385 = true then ((spec_A2Sum.f k t360).bind fun t386 => (if t386 = 0 then (if bt364.2 = bt368.2 then (if bt364.2 = 0 then ((spec_SameDebts.f k bt364.1 bt368.1).bind fun t387 => (if t387 = true then (if bt372.2 = bt376.2 then (if bt372.2 = 0 then ((spec_SameDebts.f k bt372.1 bt376.1).bind fun t388 => (if t388 = true then (if bt381.2 = 0 then ((impl_SameDebts.f k bt381.1 t353).bind fun t389 => (if t389 = true then ((spec_SameDebts.f k bt381.1 t353).bind fun t390 => (if t390 = true then ((impl_ValidDebts.f k t352 t353).bind fun t391 => (laws_FnNets.j0 k t352 t353 t360 bt368.1 bt376.1 (!t391))) else (laws_FnNets.j0 k t352 t353 t360 bt368.1 bt376.1 true))) else (laws_FnNets.j0 k t352 t353 t360 bt368.1 bt376.1 true))) else (laws_FnNets.j0 k t352 t353 t360 bt368.1 bt376.1 true)) else (laws_FnNets.j0 k t352 t353 t360 bt368.1 bt376.1 true))) else (laws_FnNets.j0 k t352 t353 t360 bt368.1 bt376.1 true)) else (laws_FnNets.j0 k t352 t353 t360 bt368.1 bt376.1 true)) else (laws_FnNets.j0 k t352 t353 t360 bt368.1 bt376.1 true))) else (laws_FnNets.j0 k t352 t353 t360 bt368.1 bt376.1 true)) else (laws_FnNets.j0 k t352 t353 t360 bt368.1 bt376.1 true)) else (laws_FnNets.j0 k t352 t353 t360 bt368.1 bt376.1 true))) else (laws_FnNets.j0 k t352 t353 t360 bt368.1 bt376.1 true))) else (laws_FnNets.j0 k t352 t353 t360 bt368.1 bt376.1 true)) else (laws_FnNets.j0 k t352 t353 t360 bt368.1 bt376.1 true)))))))) = some r := H; have A6 := Aside0.mk A60; clear A60; replace H := Option.bind_eq_some_iff.mp H; obtain ⟨⟨t364, t365⟩, A70, H⟩ := H; replace H : ((spec_JoinDebts.f k t352 t353).bind fun bt368 => ((impl_OffsetPairs.f k t352 t353).bind fun bt372 => ((spec_OffsetPairs.f k t352 t353).bind fun bt376 => ((impl_DebtsText.f k t353).bind fun t380 => ((impl_ReadDebts.f k t380).bind fun bt381 => (if t357 = t361 then (if t357 = 0 then ((spec_A2Same.f k t356 t360).bind fun t385 => (if t385 = true then ((spec_A2Sum.f k t360).bind fun t386 => (if t386 = 0 then (if t365 = bt368.2 then (if t365 = 0 then ((spec_SameDebts.f k t364 bt368.1).bind fun t387 => (if t387 = true then (if bt372.2 = bt376.2 then (if bt372.2 = 0 then ((spec_SameDebts.f k bt372.1 bt376.1).bind fun t388 => (if t388 = true then (if bt381.2 = 0 then ((impl_SameDebts.f k bt381.1 t353).bind fun t389 => (if t389 = true then ((spec_SameDebts.f k bt381.1 t353).bind fun t390 => (if t390 = true then ((impl_ValidDebts.f k t352 t353).bind fun t391 => (laws_FnNets.j0 k t352 t353 t360 bt368.1 bt376.1 (!t391))) else (laws_FnNets.j0 k t352 t353 t360 bt368.1 bt376.1 true))) else (laws_FnNets.j0 k t352 t353 t360 bt368.1 bt376.1 true))) else (laws_FnNets.j0 k t352 t353 t360 bt368.1 bt376.1 true)) else (laws_FnNets.j0 k t352 t353 t360 bt368.1 bt376.1 true))) else (laws_FnNets.j0 k t352 t353 t360 bt368.1 bt376.1 true)) else (laws_FnNets.j0 k t352 t353 t360 bt368.1 bt376.1 true)) else (laws_FnNets.j0 k t352 t353 t360 bt368.1 bt376.1 true))) else (laws_FnNets.j0 k t352 t353 t360 bt368.1 bt376.1 true)) else (laws_FnNets.j0 k t352 t353 t360 bt368.1 bt376.1 true)) else (laws_FnNets.j0 k t352 t353 t360 bt368.1 bt376.1 true))) else (laws_FnNets.j0 k t352 t353 t360 bt368.1 bt376.1 true))) else (laws_FnNets.j0 k t352 t353 t360 bt368.1 bt376.1 true)) else (laws_FnNets.j0 k t352 t353 t360 bt368.1 bt376.1 true))))))) = some r := H; have A7 := Aside0.mk A70; clear A70; replace H := Option.bind_eq_some_iff.mp H; obtain ⟨⟨t368, t369⟩, A80, H⟩ := H; replace H : ((impl_OffsetPairs.f k t352 t353).bind fun bt372 => ((spec_OffsetPairs.f k t352 t353).bind fun bt376 => ((impl_DebtsText.f k t353).bind fun t380 => ((impl_ReadDebts.f k t380).bind fun bt381 => (if t357 = t361 then (if t357 = 0 then ((spec_A2Same.f k t356 t360).bind fun t385 => (if t385 = true then ((spec_A2Sum.f k t360).bind fun t386 => (if t386 = 0 then (if t365 = t369 then (if t365 = 0 then ((spec_SameDebts.f k t364 t368).bind fun t387 => (if t387 = true then (if bt372.2 = bt376.2 then (if bt372.2 = 0 then ((spec_SameDebts.f k bt372.1 bt376.1).bind fun t388 => (if t388 = true then (if bt381.2 = 0 then ((impl_SameDebts.f k bt381.1 t353).bind fun t389 => (if t389 = true then ((spec_SameDebts.f k bt381.1 t353).bind fun t390 => (if t390 = true then ((impl_ValidDebts.f k t352 t353).bind fun t391 => (laws_FnNets.j0 k t352 t353 t360 t368 bt376.1 (!t391))) else (laws_FnNets.j0 k t352 t353 t360 t368 bt376.1 true))) else (laws_FnNets.j0 k t352 t353 t360 t368 bt376.1 true))) else (laws_FnNets.j0 k t352 t353 t360 t368 bt376.1 true)) else (laws_FnNets.j0 k t352 t353 t360 t368 bt376.1 true))) else (laws_FnNets.j0 k t352 t353 t360 t368 bt376.1 true)) else (laws_FnNets.j0 k t352 t353 t360 t368 bt376.1 true)) else (laws_FnNets.j0 k t352 t353 t360 t368 bt376.1 true))) else (laws_FnNets.j0 k t352 t353 t360 t368 bt376.1 true)) else (laws_FnNets.j0 k t352 t353 t360 t368 bt376.1 true)) else (laws_FnNets.j0 k t352 t353 t360 t368 bt376.1 true))) else (laws_FnNets.j0 k t352 t353 t360 t368 bt376.1 true))) else (laws_FnNets.j0 k t352 t353 t360 t368 bt376.1 true)) else (laws_FnNets.j0 k t352 t353 t360 t368 bt376.1 true)))))) = some r := H; have A8 := Aside0.mk A80; clear A80; replace H := Option.bind_eq_some_iff.mp H; obtain ⟨⟨t372, t373⟩, A90, H⟩ := H; replace H : ((spec_OffsetPairs.f k t352 t353).bind fun bt376 => ((impl_DebtsText.f k t353).bind fun t380 => ((impl_ReadDebts.f k t380).bind fun bt381 => (if t357 = t361 then (if t357 = 0 then ((spec_A2Same.f k t356 t360).bind fun t385 => (if t385 = true then ((spec_A2Sum.f k t360).bind fun t386 => (if t386 = 0 then (if t365 = t369 then (if t365 = 0 then ((spec_SameDebts.f k t364 t368).bind fun t387 => (if t387 = true then (if t373 = bt376.2 then (if t373 = 0 then ((spec_SameDebts.f k t372 bt376.1).bind fun t388 => (if t388 = true then (if bt381.2 = 0 then ((impl_SameDebts.f k bt381.1 t353).bind fun t389 => (if t389 = true then ((spec_SameDebts.f k bt381.1 t353).bind fun t390 => (if t390 = true then ((impl_ValidDebts.f k t352 t353).bind fun t391 => (laws_FnNets.j0 k t352 t353 t360 t368 bt376.1 (!t391))) else (laws_FnNets.j0 k t352 t353 t360 t368 bt376.1 true))) else (laws_FnNets.j0 k t352 t353 t360 t368 bt376.1 true))) else (laws_FnNets.j0 k t352 t353 t360 t368 bt376.1 true)) else (laws_FnNets.j0 k t352 t353 t360 t368 bt376.1 true))) else (laws_FnNets.j0 k t352 t353 t360 t368 bt376.1 true)) else (laws_FnNets.j0 k t352 t353 t360 t368 bt376.1 true)) else (laws_FnNets.j0 k t352 t353 t360 t368 bt376.1 true))) else (laws_FnNets.j0 k t352 t353 t360 t368 bt376.1 true)) else (laws_FnNets.j0 k t352 t353 t360 t368 bt376.1 true)) else (laws_FnNets.j0 k t352 t353 t360 t368 bt376.1 true))) else (laws_FnNets.j0 k t352 t353 t360 t368 bt376.1 true))) else (laws_FnNets.j0 k t352 t353 t360 t368 bt376.1 true)) else (laws_FnNets.j0 k t352 t353 t360 t368 bt376.1 true))))) = some r := H; have A9 := Aside0.mk A90; clear A90; replace H := Option.bind_eq_some_iff.mp H; obtain ⟨⟨t376, t377⟩, A100, H⟩ := H; replace H : ((impl_DebtsText.f k t353).bind fun t380 => ((impl_ReadDebts.f k t380).bind fun bt381 => (if t357 = t361 then (if t357 = 0 then ((spec_A2Same.f k t356 t360).bind fun t385 => (if t385 = true then ((spec_A2Sum.f k t360).bind fun t386 => (if t386 = 0 then (if t365 = t369 then (if t365 = 0 then ((spec_SameDebts.f k t364 t368).bind fun t387 => (if t387 = true then (if t373 = t377 then (if t373 = 0 then ((spec_SameDebts.f k t372 t376).bind fun t388 => (if t388 = true then (if bt381.2 = 0 then ((impl_SameDebts.f k bt381.1 t353).bind fun t389 => (if t389 = true then ((spec_SameDebts.f k bt381.1 t353).bind fun t390 => (if t390 = true then ((impl_ValidDebts.f k t352 t353).bind fun t391 => (laws_FnNets.j0 k t352 t353 t360 t368 t376 (!t391))) else (laws_FnNets.j0 k t352 t353 t360 t368 t376 true))) else (laws_FnNets.j0 k t352 t353 t360 t368 t376 true))) else (laws_FnNets.j0 k t352 t353 t360 t368 t376 true)) else (laws_FnNets.j0 k t352 t353 t360 t368 t376 true))) else (laws_FnNets.j0 k t352 t353 t360 t368 t376 true)) else (laws_FnNets.j0 k t352 t353 t360 t368 t376 true)) else (laws_FnNets.j0 k t352 t353 t360 t368 t376 true))) else (laws_FnNets.j0 k t352 t353 t360 t368 t376 true)) else (laws_FnNets.j0 k t352 t353 t360 t368 t376 true)) else (laws_FnNets.j0 k t352 t353 t360 t368 t376 true))) else (laws_FnNets.j0 k t352 t353 t360 t368 t376 true))) else (laws_FnNets.j0 k t352 t353 t360 t368 t376 true)) else (laws_FnNets.j0 k t352 t353 t360 t368 t376 true)))) = some r := H; have A10 := Aside0.mk A100; clear A100; replace H := Option.bind_eq_some_iff.mp H; obtain ⟨t380, A110, H⟩ := H; replace H : ((impl_ReadDebts.f k t380).bind fun bt381 => (if t357 = t361 then (if t357 = 0 then ((spec_A2Same.f k t356 t360).bind fun t385 => (if t385 = true then ((spec_A2Sum.f k t360).bind fun t386 => (if t386 = 0 then (if t365 = t369 then (if t365 = 0 then ((spec_SameDebts.f k t364 t368).bind fun t387 => (if t387 = true then (if t373 = t377 then (if t373 = 0 then ((spec_SameDebts.f k t372 t376).bind fun t388 => (if t388 = true then (if bt381.2 = 0 then ((impl_SameDebts.f k bt381.1 t353).bind fun t389 => (if t389 = true then ((spec_SameDebts.f k bt381.1 t353).bind fun t390 => (if t390 = true then ((impl_ValidDebts.f k t352 t353).bind fun t391 => (laws_FnNets.j0 k t352 t353 t360 t368 t376 (!t391))) else (laws_FnNets.j0 k t352 t353 t360 t368 t376 true))) else (laws_FnNets.j0 k t352 t353 t360 t368 t376 true))) else (laws_FnNets.j0 k t352 t353 t360 t368 t376 true)) else (laws_FnNets.j0 k t352 t353 t360 t368 t376 true))) else (laws_FnNets.j0 k t352 t353 t360 t368 t376 true)) else (laws_FnNets.j0 k t352 t353 t360 t368 t376 true)) else (laws_FnNets.j0 k t352 t353 t360 t368 t376 true))) else (laws_FnNets.j0 k t352 t353 t360 t368 t376 true)) else (laws_FnNets.j0 k t352 t353 t360 t368 t376 true)) else (laws_FnNets.j0 k t352 t353 t360 t368 t376 true))) else (laws_FnNets.j0 k t352 t353 t360 t368 t376 true))) else (laws_FnNets.j0 k t352 t353 t360 t368 t376 true)) else (laws_FnNets.j0 k t352 t353 t360 t368 t376 true))) = some r := H; have A11 := Aside0.mk A110; clear A110; replace H := Option.bind_eq_some_iff.mp H; obtain ⟨⟨t381, t382⟩, A120, H⟩ := H; replace H : (if t357 = t361 then (if t357 = 0 then ((spec_A2Same.f k t356 t360).bind fun t385 => (if t385 = true then ((spec_A2Sum.f k t360).bind fun t386 => (if t386 = 0 then (if t365 = t369 then (if t365 = 0 then ((spec_SameDebts.f k t364 t368).bind fun t387 => (if t387 = true then (if t373 = t377 then (if t373 = 0 then ((spec_SameDebts.f k t372 t376).bind fun t388 => (if t388 = true then (if t382 = 0 then ((impl_SameDebts.f k t381 t353).bind fun t389 => (if t389 = true then ((spec_SameDebts.f k t381 t353).bind fun t390 => (if t390 = true then ((impl_ValidDebts.f k t352 t353).bind fun t391 => (laws_FnNets.j0 k t352 t353 t360 t368 t376 (!t391))) else (laws_FnNets.j0 k t352 t353 t360 t368 t376 true))) else (laws_FnNets.j0 k t352 t353 t360 t368 t376 true))) else (laws_FnNets.j0 k t352 t353 t360 t368 t376 true)) else (laws_FnNets.j0 k t352 t353 t360 t368 t376 true))) else (laws_FnNets.j0 k t352 t353 t360 t368 t376 true)) else (laws_FnNets.j0 k t352 t353 t360 t368 t376 true)) else (laws_FnNets.j0 k t352 t353 t360 t368 t376 true))) else (laws_FnNets.j0 k t352 t353 t360 t368 t376 true)) else (laws_FnNets.j0 k t352 t353 t360 t368 t376 true)) else (laws_FnNets.j0 k t352 t353 t360 t368 t376 true))) else (laws_FnNets.j0 k t352 t353 t360 t368 t376 true))) else (laws_FnNets.j0 k t352 t353 t360 t368 t376 true)) else (laws_FnNets.j0 k t352 t353 t360 t368 t376 true)) = some r := H; have A12 := Aside0.mk A120; clear A120; have HC13 := Aside0.mk H; clear H; go_enter Tryd.func9, Tryd.ntmps9; go_upto_region 11 with (first | ((with_reducible refine gate_callee (f := 30) rfl ?_); refine goesL_ (some 35) rfl rfl Tryd.func30 z4_ rfl #[.slice A0 l0.length c0, .slice A0 l0.length c0] rfl z1_ ?_; (with_reducible refine (laws_a2Long.calls _ _ l0 _ _ l0 false _ ?side1 ?side2 ?side3 ?side4 A2.out).mono ?_); (case side1 => repeat (first | exact HR0.out | (with_reducible refine Kd.C_alloc ?_ _) | (with_reducible refine Kd.C_drewN ?_ _) | (with_reducible refine Kd.C_drew ?_))); (case side2 => exact HC0.out); (case side3 => repeat (first | exact HR0.out | (with_reducible refine Kd.C_alloc ?_ _) | (with_reducible refine Kd.C_drewN ?_ _) | (with_reducible refine Kd.C_drew ?_))); (case side4 => exact HC0.out); rintro e w' ⟨rfl, ⟨nd, rfl⟩⟩; refine ⟨_, rfl, ?_⟩) | ((with_reducible refine gate_callee (f := 39) rfl ?_); refine goesL_ (some 38) rfl rfl Tryd.func39 z4_ rfl #[.slice A0 l0.length c0] rfl z1_ ?_; (with_reducible refine (spec_A2Debts.calls k _ _ l0 t352 t353 _ ?side1 ?side2 A4.out).mono ?_); (case side1 => repeat (first | exact HR0.out | (with_reducible refine Kd.C_alloc ?_ _) | (with_reducible refine Kd.C_drewN ?_ _) | (with_reducible refine Kd.C_drew ?_))); (case side2 => exact HC0.out); rintro e w14 ⟨v354, rfl, ho0, hb⟩; refine ⟨_, rfl, ?_⟩; have n0_ := Aside0.mk (Kd.R_lower ho0 (below_size z0_)); have n1_ := Aside0.mk (below_step z0_ hb); clear HB; have HO355 := n0_; have HB := n1_; clear n0_ n1_; (try clear hb); (try clear hb2); (try clear hk); (try clear hi); (try clear ho0); obtain ⟨Ao15, co15, eo15⟩ := Kd.R_slice HO355.out; subst eo15) | ((with_reducible refine gate_callee (f := 40) rfl ?_); refine goesL_ (some 44) rfl rfl Tryd.func40 z4_ rfl #[.int .i64 t352, .slice Ao15 t353.length co15] rfl z1_ ?_; (with_reducible refine (impl_NetsOf.calls k t352 _ _ t353 t356 t357 _ ?side1 ?side2 A5.out).mono ?_); (case side1 => repeat (first | exact (Kd.R_reads' HO355.out).2.2 | (with_reducible refine Kd.C_alloc ?_ _) | (with_reducible refine Kd.C_drewN ?_ _) | (with_reducible refine Kd.C_drew ?_))); (case side2 => exact (Kd.R_reads' HO355.out).2.1); rintro e w16 ⟨v358, rfl, ho0, hb⟩; refine ⟨_, rfl, ?_⟩; have n0_ := Aside0.mk (Kd.R_below z28_ hb); have n1_ := Aside0.mk (Kd.R_lower ho0 (below_size z0_)); have n2_ := Aside0.mk (below_step z0_ hb); clear HO355; clear HB; have HO355 := n0_; have HO359 := n1_; have HB := n2_; clear n0_ n1_ n2_; (try clear hb); (try clear hb2); (try clear hk); (try clear hi); (try clear ho0)) | ((with_reducible refine gate_callee (f := 41) rfl ?_); refine goesL_ (some 50) rfl rfl Tryd.func41 z4_ rfl #[.int .i64 t352, .slice Ao15 t353.length co15] rfl z1_ ?_; (with_reducible refine (spec_NetsOf.calls k t352 _ _ t353 t360 t361 _ ?side1 ?side2 A6.out).mono ?_); (case side1 => repeat (first | exact (Kd.R_reads' HO355.out).2.2 | (with_reducible refine Kd.C_alloc ?_ _) | (with_reducible refine Kd.C_drewN ?_ _) | (with_reducible refine Kd.C_drew ?_))); (case side2 => exact (Kd.R_reads' HO355.out).2.1); rintro e w17 ⟨v362, rfl, ho0, hb⟩; refine ⟨_, rfl, ?_⟩; have n0_ := Aside0.mk (Kd.R_below z28_ hb); have n1_ := Aside0.mk (Kd.R_elder' z41_ (Kd.R_base ho0) hb); have n2_ := Aside0.mk (Kd.R_lower (Kd.R_new' ho0 (Kd.R_lt z41_)) (below_size z0_)); have n3_ := Aside0.mk (below_step z0_ hb); clear HO355; clear HO359; clear HB; have HO355 := n0_; have HO359 := n1_; have HO363 := n2_; have HB := n3_; clear n0_ n1_ n2_ n3_; (try clear hb); (try clear hb2); (try clear hk); (try clear hi); (try clear ho0)) | ((with_reducible refine gate_callee (f := 42) rfl ?_); refine goesL_ (some 56) rfl rfl Tryd.func42 z4_ rfl #[.int .i64 t352, .slice Ao15 t353.length co15] rfl z1_ ?_; (with_reducible refine (impl_JoinDebts.calls k t352 _ _ t353 t364 t365 _ ?side1 ?side2 A7.out).mono ?_); (case side1 => repeat (first | exact (Kd.R_reads' HO355.out).2.2 | (with_reducible refine Kd.C_alloc ?_ _) | (with_reducible refine Kd.C_drewN ?_ _) | (with_reducible refine Kd.C_drew ?_))); (case side2 => exact (Kd.R_reads' HO355.out).2.1); rintro e w18 ⟨v366, rfl, ho0, hb⟩; refine ⟨_, rfl, ?_⟩; have n0_ := Aside0.mk (Kd.R_elder' z28_ (Kd.R_base ho0) hb); have n1_ := Aside0.mk (Kd.R_below z41_ hb); have n2_ := Aside0.mk (Kd.R_below z45_ hb); have n3_ := Aside0.mk (Kd.R_lower (Kd.R_new' ho0 (Kd.R_lt z28_)) (below_size z0_)); have n4_ := Aside0.mk (below_step z0_ hb); clear HO355; clear HO359; clear HO363; clear HB; have HO355 := n0_; have HO359 := n1_; have HO363 := n2_; have HO367 := n3_; have HB := n4_; clear n0_ n1_ n2_ n3_ n4_; (try clear hb); (try clear hb2); (try clear hk); (try clear hi); (try clear ho0)) | ((with_reducible refine gate_callee (f := 43) rfl ?_); refine goesL_ (some 62) rfl rfl Tryd.func43 z4_ rfl #[.int .i64 t352, .slice Ao15 t353.length co15] rfl z1_ ?_; (with_reducible refine (spec_JoinDebts.calls k t352 _ _ t353 t368 t369 _ ?side1 ?side2 A8.out).mono ?_); (case side1 => repeat (first | exact (Kd.R_reads' HO355.out).2.2 | (with_reducible refine Kd.C_alloc ?_ _) | (with_reducible refine Kd.C_drewN ?_ _) | (with_reducible refine Kd.C_drew ?_))); (case side2 => exact (Kd.R_reads' HO355.out).2.1); rintro e w19 ⟨v370, rfl, ho0, hb⟩; refine ⟨_, rfl, ?_⟩; have n0_ := Aside0.mk (Kd.R_elder' z28_ (Kd.R_base ho0) hb); have n1_ := Aside0.mk (Kd.R_below z41_ hb); have n2_ := Aside0.mk (Kd.R_below z45_ hb); have n3_ := Aside0.mk (Kd.R_elder' z36_ (Kd.R_base ho0) hb); have n4_ := Aside0.mk (Kd.R_lower (Kd.R_new' (Kd.R_new' ho0 (Kd.R_lt z28_)) (Kd.R_lt z36_)) (below_size z0_)); have n5_ := Aside0.mk (below_step z0_ hb); clear HO355; clear HO359; clear HO363; clear HO367; clear HB; have HO355 := n0_; have HO359 := n1_; have HO363 := n2_; have HO367 := n3_; have HO371 := n4_; have HB := n5_; clear n0_ n1_ n2_ n3_ n4_ n5_; (try clear hb); (try clear hb2); (try clear hk); (try clear hi); (try clear ho0)) | ((with_reducible refine gate_callee (f := 44) rfl ?_); refine goesL_ (some 68) rfl rfl Tryd.func44 z4_ rfl #[.int .i64 t352, .slice Ao15 t353.length co15] rfl z1_ ?_; (with_reducible refine (impl_OffsetPairs.calls k t352 _ _ t353 t372 t373 _ ?side1 ?side2 A9.out).mono ?_); (case side1 => repeat (first | exact (Kd.R_reads' HO355.out).2.2 | (with_reducible refine Kd.C_alloc ?_ _) | (with_reducible refine Kd.C_drewN ?_ _) | (with_reducible refine Kd.C_drew ?_))); (case side2 => exact (Kd.R_reads' HO355.out).2.1); rintro e w20 ⟨v374, rfl, ho0, hb⟩; refine ⟨_, rfl, ?_⟩; have n0_ := Aside0.mk (Kd.R_elder' z28_ (Kd.R_base ho0) hb); have n1_ := Aside0.mk (Kd.R_below z41_ hb); have n2_ := Aside0.mk (Kd.R_below z45_ hb); have n3_ := Aside0.mk (Kd.R_elder' z36_ (Kd.R_base ho0) hb); have n4_ := Aside0.mk (Kd.R_elder' z43_ (Kd.R_base ho0) hb); have n5_ := Aside0.mk (Kd.R_lower (Kd.R_new' (Kd.R_new' (Kd.R_new' ho0 (Kd.R_lt z28_)) (Kd.R_lt z36_)) (Kd.R_lt z43_)) (below_size z0_)); have n6_ := Aside0.mk (below_step z0_ hb); clear HO355; clear HO359; clear HO363; clear HO367; clear HO371; clear HB; have HO355 := n0_; have HO359 := n1_; have HO363 := n2_; have HO367 := n3_; have HO371 := n4_; have HO375 := n5_; have HB := n6_; clear n0_ n1_ n2_ n3_ n4_ n5_ n6_; (try clear hb); (try clear hb2); (try clear hk); (try clear hi); (try clear ho0)) | ((with_reducible refine gate_callee (f := 45) rfl ?_); refine goesL_ (some 74) rfl rfl Tryd.func45 z4_ rfl #[.int .i64 t352, .slice Ao15 t353.length co15] rfl z1_ ?_; (with_reducible refine (spec_OffsetPairs.calls k t352 _ _ t353 t376 t377 _ ?side1 ?side2 A10.out).mono ?_); (case side1 => repeat (first | exact (Kd.R_reads' HO355.out).2.2 | (with_reducible refine Kd.C_alloc ?_ _) | (with_reducible refine Kd.C_drewN ?_ _) | (with_reducible refine Kd.C_drew ?_))); (case side2 => exact (Kd.R_reads' HO355.out).2.1); rintro e w21 ⟨v378, rfl, ho0, hb⟩; refine ⟨_, rfl, ?_⟩; have n0_ := Aside0.mk (Kd.R_elder' z28_ (Kd.R_base ho0) hb); have n1_ := Aside0.mk (Kd.R_below z41_ hb); have n2_ := Aside0.mk (Kd.R_below z45_ hb); have n3_ := Aside0.mk (Kd.R_elder' z36_ (Kd.R_base ho0) hb); have n4_ := Aside0.mk (Kd.R_elder' z43_ (Kd.R_base ho0) hb); have n5_ := Aside0.mk (Kd.R_elder' z49_ (Kd.R_base ho0) hb); have n6_ := Aside0.mk (Kd.R_lower (Kd.R_new' (Kd.R_new' (Kd.R_new' (Kd.R_new' ho0 (Kd.R_lt z28_)) (Kd.R_lt z36_)) (Kd.R_lt z43_)) (Kd.R_lt z49_)) (below_size z0_)); have n7_ := Aside0.mk (below_step z0_ hb); clear HO355; clear HO359; clear HO363; clear HO367; clear HO371; clear HO375; clear HB; have HO355 := n0_; have HO359 := n1_; have HO363 := n2_; have HO367 := n3_; have HO371 := n4_; have HO375 := n5_; have HO379 := n6_; have HB := n7_; clear n0_ n1_ n2_ n3_ n4_ n5_ n6_ n7_; (try clear hb); (try clear hb2); (try clear hk); (try clear hi); (try clear ho0)) | ((with_reducible refine gate_callee (f := 15) rfl ?_); refine goesL_ (some 79) rfl rfl Tryd.func15 z4_ rfl #[.slice Ao15 t353.length co15] rfl z1_ ?_; (with_reducible refine (impl_DebtsText.calls k _ _ t353 t380 _ ?side1 ?side2 ?side3 A11.out).mono ?_); (case side1 => repeat (first | exact (Kd.R_reads' HO355.out).2.2 | (with_reducible refine Kd.C_alloc ?_ _) | (with_reducible refine Kd.C_drewN ?_ _) | (with_reducible refine Kd.C_drew ?_))); (case side2 => exact (Kd.R_reads' HO355.out).2.1); (case side3 => first | exact hT | exact Tt.TT_on hT z0_); rintro e w22 ⟨rfl, hb⟩; refine ⟨_, rfl, ?_⟩; have n0_ := Aside0.mk (Kd.R_below z28_ hb); have n1_ := Aside0.mk (Kd.R_below z41_ hb); have n2_ := Aside0.mk (Kd.R_below z45_ hb); have n3_ := Aside0.mk (Kd.R_below z36_ hb); have n4_ := Aside0.mk (Kd.R_below z43_ hb); have n5_ := Aside0.mk (Kd.R_below z49_ hb); have n6_ := Aside0.mk (Kd.R_below z61_ hb); have n7_ := Aside0.mk (below_step z0_ hb); clear HO355; clear HO359; clear HO363; clear HO367; clear HO371; clear HO375; clear HO379; clear HB; have HO355 := n0_; have HO359 := n1_; have HO363 := n2_; have HO367 := n3_; have HO371 := n4_; have HO375 := n5_; have HO379 := n6_; have HB := n7_; clear n0_ n1_ n2_ n3_ n4_ n5_ n6_ n7_; (try clear hb); (try clear hb2); (try clear hk); (try clear hi)) | ((with_reducible refine gate_callee (f := 18) rfl ?_); refine goesL_ (some 80) rfl rfl Tryd.func18 z4_ rfl #[.string t380] rfl z1_ ?_; (with_reducible refine (impl_ReadDebts.calls k t380 t381 t382 _ ?side1 A12.out).mono ?_); (case side1 => first | exact hT | exact Tt.TT_on hT z0_); rintro e w23 ⟨v383, rfl, ho0, hb⟩; refine ⟨_, rfl, ?_⟩; have n0_ := Aside0.mk (Kd.R_elder' z28_ (Kd.R_base ho0) hb); have n1_ := Aside0.mk (Kd.R_below z41_ hb); have n2_ := Aside0.mk (Kd.R_below z45_ hb); have n3_ := Aside0.mk (Kd.R_elder' z36_ (Kd.R_base ho0) hb); have n4_ := Aside0.mk (Kd.R_elder' z43_ (Kd.R_base ho0) hb); have n5_ := Aside0.mk (Kd.R_elder' z49_ (Kd.R_base ho0) hb); have n6_ := Aside0.mk (Kd.R_elder' z61_ (Kd.R_base ho0) hb); have n7_ := Aside0.mk (Kd.R_lower (Kd.R_new' (Kd.R_new' (Kd.R_new' (Kd.R_new' (Kd.R_new' ho0 (Kd.R_lt z28_)) (Kd.R_lt z36_)) (Kd.R_lt z43_)) (Kd.R_lt z49_)) (Kd.R_lt z61_)) (below_size z0_)); have n8_ := Aside0.mk (below_step z0_ hb); clear HO355; clear HO359; clear HO363; clear HO367; clear HO371; clear HO375; clear HO379; clear HB; have HO355 := n0_; have HO359 := n1_; have HO363 := n2_; have HO367 := n3_; have HO371 := n4_; have HO375 := n5_; have HO379 := n6_; have HO384 := n7_; have HB := n8_; clear n0_ n1_ n2_ n3_ n4_ n5_ n6_ n7_ n8_; (try clear hb); (try clear hb2); (try clear hk); (try clear hi); (try clear ho0))); (try simp only [Act.put, List.setIfInBounds_toArray, List.set_cons_zero, List.set_cons_succ]); go_cut [152] (fun v152 wc => ∃ (kq : Nat) (x152_12 : Bool), v152 = .bool x152_12 ∧ Aside0 (laws_FnNets.j0 kq t352 t353 t360 t368 t376 x152_12 = some r) ∧ Aside0 (kq ≤ k) ∧ Aside0 (Kd.R k77 77 wc w.heap.size (fun k_ => some k_ ≠ (v370 : Value).ownBlock ∧ some k_ ≠ (v378 : Value).ownBlock) (.slice Ao15 t353.length co15) t353) ∧ Aside0 (Kd.R (Kd.int .i64) 2 wc w.heap.size (fun _ => True) v362 t360) ∧ Aside0 (Kd.R k77 77 wc w.heap.size (fun k_ => some k_ ≠ ((.slice Ao15 t353.length co15) : Value).ownBlock ∧ some k_ ≠ (v378 : Value).ownBlock) v370 t368) ∧ Aside0 (Kd.R k77 77 wc w.heap.size (fun k_ => some k_ ≠ ((.slice Ao15 t353.length co15) : Value).ownBlock ∧ some k_ ≠ (v370 : Value).ownBlock) v378 t376) ∧ Aside0 (Below w.heap.size w wc))
  case first =>
    have H := HC13.out; clear HC13; by_cases c24 : t357 = t361
    ·rw [if_pos c24] at H; have c24b0 : (t357 == t361) = true := beq_iff_eq.mpr c24; have c24b1 : (t357 != t361) = false := bne_eq_false_iff_eq.mpr c24; clear c24; (first | rw [c24b0] | (simp only [i64_w, i32_w]; rw [c24b0]) | skip); by_cases c25 : t357 = 0
     ·rw [if_pos c25] at H; have c25b0 : (t357 == 0) = true := beq_iff_eq.mpr c25; have c25b1 : (t357 != 0) = false := bne_eq_false_iff_eq.mpr c25; clear c25; replace H := Option.bind_eq_some_iff.mp H; obtain ⟨t385, A260, H⟩ := H; replace H : (if t385 = true then ((spec_A2Sum.f k t360).bind fun t386 => (if t386 = 0 then (if t365 = t369 then (if t365 = 0 then ((spec_SameDebts.f k t364 t368).bind fun t387 => (if t387 = true then (if t373 = t377 then (if t373 = 0 then ((spec_SameDebts.f k t372 t376).bind fun t388 => (if t388 = true then (if t382 = 0 then ((impl_SameDebts.f k t381 t353).bind fun t389 => (if t389 = true then ((spec_SameDebts.f k t381 t353).bind fun t390 => (if t390 = true then ((impl_ValidDebts.f k t352 t353).bind fun t391 => (laws_FnNets.j0 k t352 t353 t360 t368 t376 (!t391))) else (laws_FnNets.j0 k t352 t353 t360 t368 t376 true))) else (laws_FnNets.j0 k t352 t353 t360 t368 t376 true))) else (laws_FnNets.j0 k t352 t353 t360 t368 t376 true)) else (laws_FnNets.j0 k t352 t353 t360 t368 t376 true))) else (laws_FnNets.j0 k t352 t353 t360 t368 t376 true)) else (laws_FnNets.j0 k t352 t353 t360 t368 t376 true)) else (laws_FnNets.j0 k t352 t353 t360 t368 t376 true))) else (laws_FnNets.j0 k t352 t353 t360 t368 t376 true)) else (laws_FnNets.j0 k t352 t353 t360 t368 t376 true)) else (laws_FnNets.j0 k t352 t353 t360 t368 t376 true))) else (laws_FnNets.j0 k t352 t353 t360 t368 t376 true)) = some r := H; have A26 := Aside0.mk A260; clear A260; by_cases c27 : t385 = true
      ·subst c27; rw [if_pos rfl] at H; replace H := Option.bind_eq_some_iff.mp H; obtain ⟨t386, A280, H⟩ := H; replace H : (if t386 = 0 then (if t365 = t369 then (if t365 = 0 then ((spec_SameDebts.f k t364 t368).bind fun t387 => (if t387 = true then (if t373 = t377 then (if t373 = 0 then ((spec_SameDebts.f k t372 t376).bind fun t388 => (if t388 = true then (if t382 = 0 then ((impl_SameDebts.f k t381 t353).bind fun t389 => (if t389 = true then ((spec_SameDebts.f k t381 t353).bind fun t390 => (if t390 = true then ((impl_ValidDebts.f k t352 t353).bind fun t391 => (laws_FnNets.j0 k t352 t353 t360 t368 t376 (!t391))) else (laws_FnNets.j0 k t352 t353 t360 t368 t376 true))) else (laws_FnNets.j0 k t352 t353 t360 t368 t376 true))) else (laws_FnNets.j0 k t352 t353 t360 t368 t376 true)) else (laws_FnNets.j0 k t352 t353 t360 t368 t376 true))) else (laws_FnNets.j0 k t352 t353 t360 t368 t376 true)) else (laws_FnNets.j0 k t352 t353 t360 t368 t376 true)) else (laws_FnNets.j0 k t352 t353 t360 t368 t376 true))) else (laws_FnNets.j0 k t352 t353 t360 t368 t376 true)) else (laws_FnNets.j0 k t352 t353 t360 t368 t376 true)) else (laws_FnNets.j0 k t352 t353 t360 t368 t376 true)) = some r := H; have A28 := Aside0.mk A280; clear A280; by_cases c29 : t386 = 0
       ·rw [if_pos c29] at H; have c29b0 : (t386 == 0) = true := beq_iff_eq.mpr c29; have c29b1 : (t386 != 0) = false := bne_eq_false_iff_eq.mpr c29; clear c29; by_cases c30 : t365 = t369
        ·rw [if_pos c30] at H; have c30b0 : (t365 == t369) = true := beq_iff_eq.mpr c30; have c30b1 : (t365 != t369) = false := bne_eq_false_iff_eq.mpr c30; clear c30; by_cases c31 : t365 = 0
         ·rw [if_pos c31] at H; have c31b0 : (t365 == 0) = true := beq_iff_eq.mpr c31; have c31b1 : (t365 != 0) = false := bne_eq_false_iff_eq.mpr c31; clear c31; replace H := Option.bind_eq_some_iff.mp H; obtain ⟨t387, A320, H⟩ := H; replace H : (if t387 = true then (if t373 = t377 then (if t373 = 0 then ((spec_SameDebts.f k t372 t376).bind fun t388 => (if t388 = true then (if t382 = 0 then ((impl_SameDebts.f k t381 t353).bind fun t389 => (if t389 = true then ((spec_SameDebts.f k t381 t353).bind fun t390 => (if t390 = true then ((impl_ValidDebts.f k t352 t353).bind fun t391 => (laws_FnNets.j0 k t352 t353 t360 t368 t376 (!t391))) else (laws_FnNets.j0 k t352 t353 t360 t368 t376 true))) else (laws_FnNets.j0 k t352 t353 t360 t368 t376 true))) else (laws_FnNets.j0 k t352 t353 t360 t368 t376 true)) else (laws_FnNets.j0 k t352 t353 t360 t368 t376 true))) else (laws_FnNets.j0 k t352 t353 t360 t368 t376 true)) else (laws_FnNets.j0 k t352 t353 t360 t368 t376 true)) else (laws_FnNets.j0 k t352 t353 t360 t368 t376 true)) = some r := H; have A32 := Aside0.mk A320; clear A320; by_cases c33 : t387 = true
          ·subst c33; rw [if_pos rfl] at H; by_cases c34 : t373 = t377
           ·rw [if_pos c34] at H; have c34b0 : (t373 == t377) = true := beq_iff_eq.mpr c34; have c34b1 : (t373 != t377) = false := bne_eq_false_iff_eq.mpr c34; clear c34; by_cases c35 : t373 = 0
            ·rw [if_pos c35] at H; have c35b0 : (t373 == 0) = true := beq_iff_eq.mpr c35; have c35b1 : (t373 != 0) = false := bne_eq_false_iff_eq.mpr c35; clear c35; replace H := Option.bind_eq_some_iff.mp H; obtain ⟨t388, A360, H⟩ := H; replace H : (if t388 = true then (if t382 = 0 then ((impl_SameDebts.f k t381 t353).bind fun t389 => (if t389 = true then ((spec_SameDebts.f k t381 t353).bind fun t390 => (if t390 = true then ((impl_ValidDebts.f k t352 t353).bind fun t391 => (laws_FnNets.j0 k t352 t353 t360 t368 t376 (!t391))) else (laws_FnNets.j0 k t352 t353 t360 t368 t376 true))) else (laws_FnNets.j0 k t352 t353 t360 t368 t376 true))) else (laws_FnNets.j0 k t352 t353 t360 t368 t376 true)) else (laws_FnNets.j0 k t352 t353 t360 t368 t376 true)) = some r := H; have A36 := Aside0.mk A360; clear A360; by_cases c37 : t388 = true
             ·subst c37; rw [if_pos rfl] at H; by_cases c38 : t382 = 0
              ·rw [if_pos c38] at H; have c38b0 : (t382 == 0) = true := beq_iff_eq.mpr c38; have c38b1 : (t382 != 0) = false := bne_eq_false_iff_eq.mpr c38; clear c38; replace H := Option.bind_eq_some_iff.mp H; obtain ⟨t389, A390, H⟩ := H; replace H : (if t389 = true then ((spec_SameDebts.f k t381 t353).bind fun t390 => (if t390 = true then ((impl_ValidDebts.f k t352 t353).bind fun t391 => (laws_FnNets.j0 k t352 t353 t360 t368 t376 (!t391))) else (laws_FnNets.j0 k t352 t353 t360 t368 t376 true))) else (laws_FnNets.j0 k t352 t353 t360 t368 t376 true)) = some r := H; have A39 := Aside0.mk A390; clear A390; by_cases c40 : t389 = true
               ·subst c40; rw [if_pos rfl] at H; replace H := Option.bind_eq_some_iff.mp H; obtain ⟨t390, A410, H⟩ := H; replace H : (if t390 = true then ((impl_ValidDebts.f k t352 t353).bind fun t391 => (laws_FnNets.j0 k t352 t353 t360 t368 t376 (!t391))) else (laws_FnNets.j0 k t352 t353 t360 t368 t376 true)) = some r := H; have A41 := Aside0.mk A410; clear A410; by_cases c42 : t390 = true
                ·subst c42; rw [if_pos rfl] at H; replace H := Option.bind_eq_some_iff.mp H; obtain ⟨t391, A430, H⟩ := H; replace H : (laws_FnNets.j0 k t352 t353 t360 t368 t376 (!t391)) = some r := H; have A43 := Aside0.mk A430; clear A430
                 as_aux_lemma =>
                   have H' := Aside0.mk H; clear H; obtain ⟨Ao44, co44, eo44⟩ := Kd.R_slice HO359.out; subst eo44; obtain ⟨Ao45, co45, eo45⟩ := Kd.R_slice HO363.out; subst eo45; go_wp2_with (first | (go_at_call 46; (with_reducible refine (spec_A2Same.calls k _ _ t356 _ _ t360 true _ ?side1 ?side2 ?side3 ?side4 A26.out).mono ?_); (case side1 => repeat (first | exact (Kd.R_reads' HO359.out).2.2 | (with_reducible refine Kd.C_alloc ?_ _) | (with_reducible refine Kd.C_drewN ?_ _) | (with_reducible refine Kd.C_drew ?_))); (case side2 => exact (Kd.R_reads' HO359.out).2.1); (case side3 => repeat (first | exact (Kd.R_reads' HO363.out).2.2 | (with_reducible refine Kd.C_alloc ?_ _) | (with_reducible refine Kd.C_drewN ?_ _) | (with_reducible refine Kd.C_drew ?_))); (case side4 => exact (Kd.R_reads' HO363.out).2.1); rintro e w' ⟨rfl, ⟨nd, rfl⟩⟩) | (go_at_call 47; (with_reducible refine (spec_A2Sum.calls k _ _ t360 t386 _ ?side1 ?side2 A28.out).mono ?_); (case side1 => repeat (first | exact (Kd.R_reads' HO363.out).2.2 | (with_reducible refine Kd.C_alloc ?_ _) | (with_reducible refine Kd.C_drewN ?_ _) | (with_reducible refine Kd.C_drew ?_))); (case side2 => exact (Kd.R_reads' HO363.out).2.1); rintro e w' ⟨rfl, ⟨nd, rfl⟩⟩; obtain ⟨Ao46, co46, eo46⟩ := Kd.R_slice HO367.out; subst eo46; obtain ⟨Ao47, co47, eo47⟩ := Kd.R_slice HO371.out; subst eo47) | (go_at_call 48; (with_reducible refine (spec_SameDebts.calls k _ _ t364 _ _ t368 true _ ?side1 ?side2 ?side3 ?side4 A32.out).mono ?_); (case side1 => repeat (first | exact (Kd.R_reads' HO367.out).2.2 | (with_reducible refine Kd.C_alloc ?_ _) | (with_reducible refine Kd.C_drewN ?_ _) | (with_reducible refine Kd.C_drew ?_))); (case side2 => exact (Kd.R_reads' HO367.out).2.1); (case side3 => repeat (first | exact (Kd.R_reads' HO371.out).2.2 | (with_reducible refine Kd.C_alloc ?_ _) | (with_reducible refine Kd.C_drewN ?_ _) | (with_reducible refine Kd.C_drew ?_))); (case side4 => exact (Kd.R_reads' HO371.out).2.1); rintro e w' ⟨rfl, ⟨nd, rfl⟩⟩; obtain ⟨Ao48, co48, eo48⟩ := Kd.R_slice HO375.out; subst eo48; obtain ⟨Ao49, co49, eo49⟩ := Kd.R_slice HO379.out; subst eo49) | (go_at_call 48; (with_reducible refine (spec_SameDebts.calls k _ _ t372 _ _ t376 true _ ?side1 ?side2 ?side3 ?side4 A36.out).mono ?_); (case side1 => repeat (first | exact (Kd.R_reads' HO375.out).2.2 | (with_reducible refine Kd.C_alloc ?_ _) | (with_reducible refine Kd.C_drewN ?_ _) | (with_reducible refine Kd.C_drew ?_))); (case side2 => exact (Kd.R_reads' HO375.out).2.1); (case side3 => repeat (first | exact (Kd.R_reads' HO379.out).2.2 | (with_reducible refine Kd.C_alloc ?_ _) | (with_reducible refine Kd.C_drewN ?_ _) | (with_reducible refine Kd.C_drew ?_))); (case side4 => exact (Kd.R_reads' HO379.out).2.1); rintro e w' ⟨rfl, ⟨nd, rfl⟩⟩; obtain ⟨Ao50, co50, eo50⟩ := Kd.R_slice HO384.out; subst eo50) | (go_at_call 49; (with_reducible refine (impl_SameDebts.calls k _ _ t381 _ _ t353 true _ ?side1 ?side2 ?side3 ?side4 A39.out).mono ?_); (case side1 => repeat (first | exact (Kd.R_reads' HO384.out).2.2 | (with_reducible refine Kd.C_alloc ?_ _) | (with_reducible refine Kd.C_drewN ?_ _) | (with_reducible refine Kd.C_drew ?_))); (case side2 => exact (Kd.R_reads' HO384.out).2.1); (case side3 => repeat (first | exact (Kd.R_reads' HO355.out).2.2 | (with_reducible refine Kd.C_alloc ?_ _) | (with_reducible refine Kd.C_drewN ?_ _) | (with_reducible refine Kd.C_drew ?_))); (case side4 => exact (Kd.R_reads' HO355.out).2.1); rintro e w' ⟨rfl, ⟨nd, rfl⟩⟩) | (go_at_call 48; (with_reducible refine (spec_SameDebts.calls k _ _ t381 _ _ t353 true _ ?side1 ?side2 ?side3 ?side4 A41.out).mono ?_); (case side1 => repeat (first | exact (Kd.R_reads' HO384.out).2.2 | (with_reducible refine Kd.C_alloc ?_ _) | (with_reducible refine Kd.C_drewN ?_ _) | (with_reducible refine Kd.C_drew ?_))); (case side2 => exact (Kd.R_reads' HO384.out).2.1); (case side3 => repeat (first | exact (Kd.R_reads' HO355.out).2.2 | (with_reducible refine Kd.C_alloc ?_ _) | (with_reducible refine Kd.C_drewN ?_ _) | (with_reducible refine Kd.C_drew ?_))); (case side4 => exact (Kd.R_reads' HO355.out).2.1); rintro e w' ⟨rfl, ⟨nd, rfl⟩⟩) | (go_at_call 50; (with_reducible refine (impl_ValidDebts.calls k t352 _ _ t353 t391 _ ?side1 ?side2 A43.out).mono ?_); (case side1 => repeat (first | exact (Kd.R_reads' HO355.out).2.2 | (with_reducible refine Kd.C_alloc ?_ _) | (with_reducible refine Kd.C_drewN ?_ _) | (with_reducible refine Kd.C_drew ?_))); (case side2 => exact (Kd.R_reads' HO355.out).2.1); rintro e w51 ⟨rfl, hb⟩; have n0_ := Aside0.mk (Kd.R_below z28_ hb); have n1_ := Aside0.mk (Kd.R_below z41_ hb); have n2_ := Aside0.mk (Kd.R_below z45_ hb); have n3_ := Aside0.mk (Kd.R_below z36_ hb); have n4_ := Aside0.mk (Kd.R_below z43_ hb); have n5_ := Aside0.mk (Kd.R_below z49_ hb); have n6_ := Aside0.mk (Kd.R_below z61_ hb); have n7_ := Aside0.mk (Kd.R_below (by (with_reducible repeat (first | apply Kd.R_alloc | apply Kd.R_drewN | apply Kd.R_drew)); exact HO384.out) hb); have n8_ := Aside0.mk (below_step z0_ hb); clear HO355; clear HO359; clear HO363; clear HO367; clear HO371; clear HO375; clear HO379; clear HO384; clear HB; have HO355 := n0_; have HO359 := n1_; have HO363 := n2_; have HO367 := n3_; have HO371 := n4_; have HO375 := n5_; have HO379 := n6_; have HO384 := n7_; have HB := n8_; clear n0_ n1_ n2_ n3_ n4_ n5_ n6_ n7_ n8_; (try clear hb); (try clear hb2); (try clear hk); (try clear hi))); go_meet
                   case rel => exact ⟨_, (!t391), z5_, H', ⟨z42_⟩, ⟨z14_⟩, ⟨z18_⟩, ⟨z13_⟩, ⟨z12_⟩, ⟨z0_⟩⟩
                ·replace c42 := Bool.eq_false_iff.mpr c42; subst c42; rw [if_neg (show ¬ (false = true) by decide)] at H
                 exact (by first | exact (laws_FnNets.no_j0 H ht).elim | exact (laws_FnNets.no_j1 H ht).elim)
               ·replace c40 := Bool.eq_false_iff.mpr c40; subst c40; rw [if_neg (show ¬ (false = true) by decide)] at H
                exact (by first | exact (laws_FnNets.no_j0 H ht).elim | exact (laws_FnNets.no_j1 H ht).elim)
              ·rw [if_neg c38] at H; have c38b0 : (t382 == 0) = false := beq_eq_false_iff_ne.mpr c38; have c38b1 : (t382 != 0) = true := bne_iff_ne.mpr c38
               exact (by first | exact (laws_FnNets.no_j0 H ht).elim | exact (laws_FnNets.no_j1 H ht).elim)
             ·replace c37 := Bool.eq_false_iff.mpr c37; subst c37; rw [if_neg (show ¬ (false = true) by decide)] at H
              exact (by first | exact (laws_FnNets.no_j0 H ht).elim | exact (laws_FnNets.no_j1 H ht).elim)
            ·rw [if_neg c35] at H; have c35b0 : (t373 == 0) = false := beq_eq_false_iff_ne.mpr c35; have c35b1 : (t373 != 0) = true := bne_iff_ne.mpr c35
             exact (by first | exact (laws_FnNets.no_j0 H ht).elim | exact (laws_FnNets.no_j1 H ht).elim)
           ·rw [if_neg c34] at H; have c34b0 : (t373 == t377) = false := beq_eq_false_iff_ne.mpr c34; have c34b1 : (t373 != t377) = true := bne_iff_ne.mpr c34
            exact (by first | exact (laws_FnNets.no_j0 H ht).elim | exact (laws_FnNets.no_j1 H ht).elim)
          ·replace c33 := Bool.eq_false_iff.mpr c33; subst c33; rw [if_neg (show ¬ (false = true) by decide)] at H
           exact (by first | exact (laws_FnNets.no_j0 H ht).elim | exact (laws_FnNets.no_j1 H ht).elim)
         ·rw [if_neg c31] at H; have c31b0 : (t365 == 0) = false := beq_eq_false_iff_ne.mpr c31; have c31b1 : (t365 != 0) = true := bne_iff_ne.mpr c31
          exact (by first | exact (laws_FnNets.no_j0 H ht).elim | exact (laws_FnNets.no_j1 H ht).elim)
        ·rw [if_neg c30] at H; have c30b0 : (t365 == t369) = false := beq_eq_false_iff_ne.mpr c30; have c30b1 : (t365 != t369) = true := bne_iff_ne.mpr c30
         exact (by first | exact (laws_FnNets.no_j0 H ht).elim | exact (laws_FnNets.no_j1 H ht).elim)
       ·rw [if_neg c29] at H; have c29b0 : (t386 == 0) = false := beq_eq_false_iff_ne.mpr c29; have c29b1 : (t386 != 0) = true := bne_iff_ne.mpr c29
        exact (by first | exact (laws_FnNets.no_j0 H ht).elim | exact (laws_FnNets.no_j1 H ht).elim)
      ·replace c27 := Bool.eq_false_iff.mpr c27; subst c27; rw [if_neg (show ¬ (false = true) by decide)] at H
       exact (by first | exact (laws_FnNets.no_j0 H ht).elim | exact (laws_FnNets.no_j1 H ht).elim)
     ·rw [if_neg c25] at H; have c25b0 : (t357 == 0) = false := beq_eq_false_iff_ne.mpr c25; have c25b1 : (t357 != 0) = true := bne_iff_ne.mpr c25
      exact (by first | exact (laws_FnNets.no_j0 H ht).elim | exact (laws_FnNets.no_j1 H ht).elim)
    ·rw [if_neg c24] at H; have c24b0 : (t357 == t361) = false := beq_eq_false_iff_ne.mpr c24; have c24b1 : (t357 != t361) = true := bne_iff_ne.mpr c24; (first | rw [c24b0] | (simp only [i64_w, i32_w]; rw [c24b0]) | skip)
     exact (by first | exact (laws_FnNets.no_j0 H ht).elim | exact (laws_FnNets.no_j1 H ht).elim)
  case rest =>
    clear HC13; (try clear c1); (try clear c2); (try clear p2); (try clear c3); (try clear c4); (try clear c9); (try clear c15); (try clear c18); (try clear c24); (try clear c24b0); (try clear c24b1); (try clear c25); (try clear c25b0); (try clear c25b1); (try clear c27); (try clear c29); (try clear c29b0); (try clear c29b1); (try clear c30); (try clear c30b0); (try clear c30b1); (try clear c31); (try clear c31b0); (try clear c31b1); (try clear c33); (try clear c34); (try clear c34b0); (try clear c34b1); (try clear c35); (try clear c35b0); (try clear c35b1); (try clear c37); (try clear c38); (try clear c38b0); (try clear c38b1); (try clear c39); (try clear c40); (try clear c41); (try clear c42); (try clear c43); (try clear c44); (try clear c45); obtain ⟨kq, x152_12, rfl, HA, HJ12, HO_4, HO_7, HO_11, HO_15, HB⟩ := hcut
    cases kq with
    | zero => exact absurd HA.out (by simp [laws_FnNets.j0])
    | succ kj12 =>
      have H := HA.out; clear HA; simp only [laws_FnNets.j0] at H; by_cases c98 : x152_12 = true
      ·subst c98; rw [if_pos rfl] at H
       as_aux_lemma =>
         obtain rfl := Option.some.inj H; cases ht
      ·replace c98 := Bool.eq_false_iff.mpr c98; subst c98; rw [if_neg (show ¬ (false = true) by decide)] at H; replace H := Option.bind_eq_some_iff.mp H; obtain ⟨⟨t392, t393⟩, A990, H⟩ := H; replace H : ((impl_NetsOf.f kj12 t352 t376).bind fun bt396 => ((impl_SumOfDebts.f kj12 t352 t353).bind fun bt400 => ((impl_SumOfDebts.f kj12 t352 t368).bind fun bt402 => (if t393 = 0 then (if bt396.2 = 0 then ((spec_A2Same.f kj12 t392 t360).bind fun t404 => (if t404 = true then ((spec_A2Same.f kj12 bt396.1 t360).bind fun t405 => (if t405 = true then (if bt400.2 = 0 then (if bt402.2 = 0 then (laws_FnNets.j1 kj12 t352 t353 t368 t376 (bt400.1 != bt402.1)) else (laws_FnNets.j1 kj12 t352 t353 t368 t376 true)) else (laws_FnNets.j1 kj12 t352 t353 t368 t376 true)) else (laws_FnNets.j1 kj12 t352 t353 t368 t376 true))) else (laws_FnNets.j1 kj12 t352 t353 t368 t376 true))) else (laws_FnNets.j1 kj12 t352 t353 t368 t376 true)) else (laws_FnNets.j1 kj12 t352 t353 t368 t376 true))))) = some r := H; have A99 := Aside0.mk A990; clear A990; replace H := Option.bind_eq_some_iff.mp H; obtain ⟨⟨t396, t397⟩, A1000, H⟩ := H; replace H : ((impl_SumOfDebts.f kj12 t352 t353).bind fun bt400 => ((impl_SumOfDebts.f kj12 t352 t368).bind fun bt402 => (if t393 = 0 then (if t397 = 0 then ((spec_A2Same.f kj12 t392 t360).bind fun t404 => (if t404 = true then ((spec_A2Same.f kj12 t396 t360).bind fun t405 => (if t405 = true then (if bt400.2 = 0 then (if bt402.2 = 0 then (laws_FnNets.j1 kj12 t352 t353 t368 t376 (bt400.1 != bt402.1)) else (laws_FnNets.j1 kj12 t352 t353 t368 t376 true)) else (laws_FnNets.j1 kj12 t352 t353 t368 t376 true)) else (laws_FnNets.j1 kj12 t352 t353 t368 t376 true))) else (laws_FnNets.j1 kj12 t352 t353 t368 t376 true))) else (laws_FnNets.j1 kj12 t352 t353 t368 t376 true)) else (laws_FnNets.j1 kj12 t352 t353 t368 t376 true)))) = some r := H; have A100 := Aside0.mk A1000; clear A1000; replace H := Option.bind_eq_some_iff.mp H; obtain ⟨⟨t400, t401⟩, A1010, H⟩ := H; replace H : ((impl_SumOfDebts.f kj12 t352 t368).bind fun bt402 => (if t393 = 0 then (if t397 = 0 then ((spec_A2Same.f kj12 t392 t360).bind fun t404 => (if t404 = true then ((spec_A2Same.f kj12 t396 t360).bind fun t405 => (if t405 = true then (if t401 = 0 then (if bt402.2 = 0 then (laws_FnNets.j1 kj12 t352 t353 t368 t376 (t400 != bt402.1)) else (laws_FnNets.j1 kj12 t352 t353 t368 t376 true)) else (laws_FnNets.j1 kj12 t352 t353 t368 t376 true)) else (laws_FnNets.j1 kj12 t352 t353 t368 t376 true))) else (laws_FnNets.j1 kj12 t352 t353 t368 t376 true))) else (laws_FnNets.j1 kj12 t352 t353 t368 t376 true)) else (laws_FnNets.j1 kj12 t352 t353 t368 t376 true))) = some r := H; have A101 := Aside0.mk A1010; clear A1010; replace H := Option.bind_eq_some_iff.mp H; obtain ⟨⟨t402, t403⟩, A1020, H⟩ := H; replace H : (if t393 = 0 then (if t397 = 0 then ((spec_A2Same.f kj12 t392 t360).bind fun t404 => (if t404 = true then ((spec_A2Same.f kj12 t396 t360).bind fun t405 => (if t405 = true then (if t401 = 0 then (if t403 = 0 then (laws_FnNets.j1 kj12 t352 t353 t368 t376 (t400 != t402)) else (laws_FnNets.j1 kj12 t352 t353 t368 t376 true)) else (laws_FnNets.j1 kj12 t352 t353 t368 t376 true)) else (laws_FnNets.j1 kj12 t352 t353 t368 t376 true))) else (laws_FnNets.j1 kj12 t352 t353 t368 t376 true))) else (laws_FnNets.j1 kj12 t352 t353 t368 t376 true)) else (laws_FnNets.j1 kj12 t352 t353 t368 t376 true)) = some r := H; have A102 := Aside0.mk A1020; clear A1020; have HC103 := Aside0.mk H; clear H; obtain ⟨Ao104, co104, eo104⟩ := Kd.R_slice HO_11.out; subst eo104; go_upto_region 17 with (first | ((with_reducible refine gate_callee (f := 40) rfl ?_); refine goesL_ (some 156) rfl rfl Tryd.func40 z4_ rfl #[.int .i64 t352, .slice Ao104 t368.length co104] rfl z1_ ?_; (with_reducible refine (impl_NetsOf.calls kj12 t352 _ _ t368 t392 t393 _ ?side1 ?side2 A99.out).mono ?_); (case side1 => repeat (first | exact (Kd.R_reads' HO_11.out).2.2 | (with_reducible refine Kd.C_alloc ?_ _) | (with_reducible refine Kd.C_drewN ?_ _) | (with_reducible refine Kd.C_drew ?_))); (case side2 => exact (Kd.R_reads' HO_11.out).2.1); rintro e w105 ⟨v394, rfl, ho0, hb⟩; refine ⟨_, rfl, ?_⟩; have n0_ := Aside0.mk (Kd.R_below z7_ hb); have n1_ := Aside0.mk (Kd.R_elder' z50_ (Kd.R_base ho0) hb); have n2_ := Aside0.mk (Kd.R_below z19_ hb); have n3_ := Aside0.mk (Kd.R_below z15_ hb); have n4_ := Aside0.mk (Kd.R_lower (Kd.R_new' ho0 (Kd.R_lt z50_)) (below_size z0_)); have n5_ := Aside0.mk (below_step z0_ hb); clear HO_4; clear HO_7; clear HO_11; clear HO_15; clear HB; have HO_4 := n0_; have HO_7 := n1_; have HO_11 := n2_; have HO_15 := n3_; have HO395 := n4_; have HB := n5_; clear n0_ n1_ n2_ n3_ n4_ n5_; (try clear hb); (try clear hb2); (try clear hk); (try clear hi); (try clear ho0); obtain ⟨Ao106, co106, eo106⟩ := Kd.R_slice HO_15.out; subst eo106) | ((with_reducible refine gate_callee (f := 40) rfl ?_); refine goesL_ (some 162) rfl rfl Tryd.func40 z4_ rfl #[.int .i64 t352, .slice Ao106 t376.length co106] rfl z1_ ?_; (with_reducible refine (impl_NetsOf.calls kj12 t352 _ _ t376 t396 t397 _ ?side1 ?side2 A100.out).mono ?_); (case side1 => repeat (first | exact (Kd.R_reads' HO_15.out).2.2 | (with_reducible refine Kd.C_alloc ?_ _) | (with_reducible refine Kd.C_drewN ?_ _) | (with_reducible refine Kd.C_drew ?_))); (case side2 => exact (Kd.R_reads' HO_15.out).2.1); rintro e w107 ⟨v398, rfl, ho0, hb⟩; refine ⟨_, rfl, ?_⟩; have n0_ := Aside0.mk (Kd.R_below z7_ hb); have n1_ := Aside0.mk (Kd.R_elder' z50_ (Kd.R_base ho0) hb); have n2_ := Aside0.mk (Kd.R_below z19_ hb); have n3_ := Aside0.mk (Kd.R_below z15_ hb); have n4_ := Aside0.mk (Kd.R_elder' z60_ (Kd.R_base ho0) hb); have n5_ := Aside0.mk (Kd.R_lower (Kd.R_new' (Kd.R_new' ho0 (Kd.R_lt z50_)) (Kd.R_lt z60_)) (below_size z0_)); have n6_ := Aside0.mk (below_step z0_ hb); clear HO_4; clear HO_7; clear HO_11; clear HO_15; clear HO395; clear HB; have HO_4 := n0_; have HO_7 := n1_; have HO_11 := n2_; have HO_15 := n3_; have HO395 := n4_; have HO399 := n5_; have HB := n6_; clear n0_ n1_ n2_ n3_ n4_ n5_ n6_; (try clear hb); (try clear hb2); (try clear hk); (try clear hi); (try clear ho0)) | ((with_reducible refine gate_callee (f := 51) rfl ?_); refine goesL_ (some 168) rfl rfl Tryd.func51 z4_ rfl #[.int .i64 t352, .slice Ao15 t353.length co15] rfl z1_ ?_; (with_reducible refine (impl_SumOfDebts.calls kj12 t352 _ _ t353 t400 t401 _ ?side1 ?side2 A101.out).mono ?_); (case side1 => repeat (first | exact (Kd.R_reads' HO_4.out).2.2 | (with_reducible refine Kd.C_alloc ?_ _) | (with_reducible refine Kd.C_drewN ?_ _) | (with_reducible refine Kd.C_drew ?_))); (case side2 => exact (Kd.R_reads' HO_4.out).2.1); rintro e w108 ⟨rfl, hb⟩; refine ⟨_, rfl, ?_⟩; have n0_ := Aside0.mk (Kd.R_below z7_ hb); have n1_ := Aside0.mk (Kd.R_below z50_ hb); have n2_ := Aside0.mk (Kd.R_below z19_ hb); have n3_ := Aside0.mk (Kd.R_below z15_ hb); have n4_ := Aside0.mk (Kd.R_below z60_ hb); have n5_ := Aside0.mk (Kd.R_below (by (with_reducible repeat (first | apply Kd.R_alloc | apply Kd.R_drewN | apply Kd.R_drew)); exact HO399.out) hb); have n6_ := Aside0.mk (below_step z0_ hb); clear HO_4; clear HO_7; clear HO_11; clear HO_15; clear HO395; clear HO399; clear HB; have HO_4 := n0_; have HO_7 := n1_; have HO_11 := n2_; have HO_15 := n3_; have HO395 := n4_; have HO399 := n5_; have HB := n6_; clear n0_ n1_ n2_ n3_ n4_ n5_ n6_; (try clear hb); (try clear hb2); (try clear hk); (try clear hi)) | ((with_reducible refine gate_callee (f := 51) rfl ?_); refine goesL_ (some 174) rfl rfl Tryd.func51 z4_ rfl #[.int .i64 t352, .slice Ao104 t368.length co104] rfl z1_ ?_; (with_reducible refine (impl_SumOfDebts.calls kj12 t352 _ _ t368 t402 t403 _ ?side1 ?side2 A102.out).mono ?_); (case side1 => repeat (first | exact (Kd.R_reads' HO_11.out).2.2 | (with_reducible refine Kd.C_alloc ?_ _) | (with_reducible refine Kd.C_drewN ?_ _) | (with_reducible refine Kd.C_drew ?_))); (case side2 => exact (Kd.R_reads' HO_11.out).2.1); rintro e w109 ⟨rfl, hb⟩; refine ⟨_, rfl, ?_⟩; have n0_ := Aside0.mk (Kd.R_below z7_ hb); have n1_ := Aside0.mk (Kd.R_below z50_ hb); have n2_ := Aside0.mk (Kd.R_below z19_ hb); have n3_ := Aside0.mk (Kd.R_below z15_ hb); have n4_ := Aside0.mk (Kd.R_below z60_ hb); have n5_ := Aside0.mk (Kd.R_below (by (with_reducible repeat (first | apply Kd.R_alloc | apply Kd.R_drewN | apply Kd.R_drew)); exact HO399.out) hb); have n6_ := Aside0.mk (below_step z0_ hb); clear HO_4; clear HO_7; clear HO_11; clear HO_15; clear HO395; clear HO399; clear HB; have HO_4 := n0_; have HO_7 := n1_; have HO_11 := n2_; have HO_15 := n3_; have HO395 := n4_; have HO399 := n5_; have HB := n6_; clear n0_ n1_ n2_ n3_ n4_ n5_ n6_; (try clear hb); (try clear hb2); (try clear hk); (try clear hi))); (try simp only [Act.put, List.setIfInBounds_toArray, List.set_cons_zero, List.set_cons_succ]); go_cut [207] (fun v207 wc => ∃ (kq : Nat) (x207_102 : Bool), v207 = .bool x207_102 ∧ Aside0 (laws_FnNets.j1 kq t352 t353 t368 t376 x207_102 = some r) ∧ Aside0 (kq ≤ kj12) ∧ Aside0 (Kd.R k77 77 wc w.heap.size (fun k_ => some k_ ≠ ((.slice Ao104 t368.length co104) : Value).ownBlock ∧ some k_ ≠ ((.slice Ao106 t376.length co106) : Value).ownBlock) (.slice Ao15 t353.length co15) t353) ∧ Aside0 (Kd.R k77 77 wc w.heap.size (fun k_ => some k_ ≠ ((.slice Ao15 t353.length co15) : Value).ownBlock ∧ some k_ ≠ ((.slice Ao106 t376.length co106) : Value).ownBlock) (.slice Ao104 t368.length co104) t368) ∧ Aside0 (Kd.R k77 77 wc w.heap.size (fun k_ => some k_ ≠ ((.slice Ao15 t353.length co15) : Value).ownBlock ∧ some k_ ≠ ((.slice Ao104 t368.length co104) : Value).ownBlock) (.slice Ao106 t376.length co106) t376) ∧ Aside0 (Below w.heap.size w wc))
       case first =>
         have H := HC103.out; clear HC103; by_cases c110 : t393 = 0
         ·rw [if_pos c110] at H; have c110b0 : (t393 == 0) = true := beq_iff_eq.mpr c110; have c110b1 : (t393 != 0) = false := bne_eq_false_iff_eq.mpr c110; clear c110; (first | rw [c110b0] | (simp only [i64_w, i32_w]; rw [c110b0]) | skip); by_cases c111 : t397 = 0
          ·rw [if_pos c111] at H; have c111b0 : (t397 == 0) = true := beq_iff_eq.mpr c111; have c111b1 : (t397 != 0) = false := bne_eq_false_iff_eq.mpr c111; clear c111; replace H := Option.bind_eq_some_iff.mp H; obtain ⟨t404, A1120, H⟩ := H; replace H : (if t404 = true then ((spec_A2Same.f kj12 t396 t360).bind fun t405 => (if t405 = true then (if t401 = 0 then (if t403 = 0 then (laws_FnNets.j1 kj12 t352 t353 t368 t376 (t400 != t402)) else (laws_FnNets.j1 kj12 t352 t353 t368 t376 true)) else (laws_FnNets.j1 kj12 t352 t353 t368 t376 true)) else (laws_FnNets.j1 kj12 t352 t353 t368 t376 true))) else (laws_FnNets.j1 kj12 t352 t353 t368 t376 true)) = some r := H; have A112 := Aside0.mk A1120; clear A1120; by_cases c113 : t404 = true
           ·subst c113; rw [if_pos rfl] at H; replace H := Option.bind_eq_some_iff.mp H; obtain ⟨t405, A1140, H⟩ := H; replace H : (if t405 = true then (if t401 = 0 then (if t403 = 0 then (laws_FnNets.j1 kj12 t352 t353 t368 t376 (t400 != t402)) else (laws_FnNets.j1 kj12 t352 t353 t368 t376 true)) else (laws_FnNets.j1 kj12 t352 t353 t368 t376 true)) else (laws_FnNets.j1 kj12 t352 t353 t368 t376 true)) = some r := H; have A114 := Aside0.mk A1140; clear A1140; by_cases c115 : t405 = true
            ·subst c115; rw [if_pos rfl] at H; by_cases c116 : t401 = 0
             ·rw [if_pos c116] at H; have c116b0 : (t401 == 0) = true := beq_iff_eq.mpr c116; have c116b1 : (t401 != 0) = false := bne_eq_false_iff_eq.mpr c116; clear c116; by_cases c117 : t403 = 0
              ·rw [if_pos c117] at H; have c117b0 : (t403 == 0) = true := beq_iff_eq.mpr c117; have c117b1 : (t403 != 0) = false := bne_eq_false_iff_eq.mpr c117; clear c117
               as_aux_lemma =>
                 have H' := Aside0.mk H; clear H; obtain ⟨Ao118, co118, eo118⟩ := Kd.R_slice HO395.out; subst eo118; obtain ⟨Ao119, co119, eo119⟩ := Kd.R_slice HO_7.out; subst eo119; go_wp2_with (first | (go_at_call 46; (with_reducible refine (spec_A2Same.calls kj12 _ _ t392 _ _ t360 true _ ?side1 ?side2 ?side3 ?side4 A112.out).mono ?_); (case side1 => repeat (first | exact (Kd.R_reads' HO395.out).2.2 | (with_reducible refine Kd.C_alloc ?_ _) | (with_reducible refine Kd.C_drewN ?_ _) | (with_reducible refine Kd.C_drew ?_))); (case side2 => exact (Kd.R_reads' HO395.out).2.1); (case side3 => repeat (first | exact (Kd.R_reads' HO_7.out).2.2 | (with_reducible refine Kd.C_alloc ?_ _) | (with_reducible refine Kd.C_drewN ?_ _) | (with_reducible refine Kd.C_drew ?_))); (case side4 => exact (Kd.R_reads' HO_7.out).2.1); rintro e w' ⟨rfl, ⟨nd, rfl⟩⟩; obtain ⟨Ao120, co120, eo120⟩ := Kd.R_slice HO399.out; subst eo120) | (go_at_call 46; (with_reducible refine (spec_A2Same.calls kj12 _ _ t396 _ _ t360 true _ ?side1 ?side2 ?side3 ?side4 A114.out).mono ?_); (case side1 => repeat (first | exact (Kd.R_reads' HO399.out).2.2 | (with_reducible refine Kd.C_alloc ?_ _) | (with_reducible refine Kd.C_drewN ?_ _) | (with_reducible refine Kd.C_drew ?_))); (case side2 => exact (Kd.R_reads' HO399.out).2.1); (case side3 => repeat (first | exact (Kd.R_reads' HO_7.out).2.2 | (with_reducible refine Kd.C_alloc ?_ _) | (with_reducible refine Kd.C_drewN ?_ _) | (with_reducible refine Kd.C_drew ?_))); (case side4 => exact (Kd.R_reads' HO_7.out).2.1); rintro e w' ⟨rfl, ⟨nd, rfl⟩⟩)); go_meet
                 case rel => exact ⟨_, ((t400 != t402)), z5_, H', ⟨z59_⟩, ⟨z7_⟩, ⟨z19_⟩, ⟨z15_⟩, ⟨z0_⟩⟩
              ·rw [if_neg c117] at H; have c117b0 : (t403 == 0) = false := beq_eq_false_iff_ne.mpr c117; have c117b1 : (t403 != 0) = true := bne_iff_ne.mpr c117
               exact (by first | exact (laws_FnNets.no_j0 H ht).elim | exact (laws_FnNets.no_j1 H ht).elim)
             ·rw [if_neg c116] at H; have c116b0 : (t401 == 0) = false := beq_eq_false_iff_ne.mpr c116; have c116b1 : (t401 != 0) = true := bne_iff_ne.mpr c116
              exact (by first | exact (laws_FnNets.no_j0 H ht).elim | exact (laws_FnNets.no_j1 H ht).elim)
            ·replace c115 := Bool.eq_false_iff.mpr c115; subst c115; rw [if_neg (show ¬ (false = true) by decide)] at H
             exact (by first | exact (laws_FnNets.no_j0 H ht).elim | exact (laws_FnNets.no_j1 H ht).elim)
           ·replace c113 := Bool.eq_false_iff.mpr c113; subst c113; rw [if_neg (show ¬ (false = true) by decide)] at H
            exact (by first | exact (laws_FnNets.no_j0 H ht).elim | exact (laws_FnNets.no_j1 H ht).elim)
          ·rw [if_neg c111] at H; have c111b0 : (t397 == 0) = false := beq_eq_false_iff_ne.mpr c111; have c111b1 : (t397 != 0) = true := bne_iff_ne.mpr c111
           exact (by first | exact (laws_FnNets.no_j0 H ht).elim | exact (laws_FnNets.no_j1 H ht).elim)
         ·rw [if_neg c110] at H; have c110b0 : (t393 == 0) = false := beq_eq_false_iff_ne.mpr c110; have c110b1 : (t393 != 0) = true := bne_iff_ne.mpr c110; (first | rw [c110b0] | (simp only [i64_w, i32_w]; rw [c110b0]) | skip)
          exact (by first | exact (laws_FnNets.no_j0 H ht).elim | exact (laws_FnNets.no_j1 H ht).elim)
       case rest =>
         clear HC103; (try clear c1); (try clear c2); (try clear p2); (try clear c3); (try clear c4); (try clear c5); (try clear c9); (try clear c11); (try clear c15); (try clear c18); (try clear c24); (try clear c24b0); (try clear c24b1); (try clear c25); (try clear c25b0); (try clear c25b1); (try clear c27); (try clear c29); (try clear c29b0); (try clear c29b1); (try clear c30); (try clear c30b0); (try clear c30b1); (try clear c31); (try clear c31b0); (try clear c31b1); (try clear c33); (try clear c34); (try clear c34b0); (try clear c34b1); (try clear c35); (try clear c35b0); (try clear c35b1); (try clear c37); (try clear c38); (try clear c38b0); (try clear c38b1); (try clear c39); (try clear c40); (try clear c41); (try clear c42); (try clear c43); (try clear c44); (try clear c45); (try clear c51); (try clear c98); (try clear c110); (try clear c110b0); (try clear c110b1); (try clear c111); (try clear c111b0); (try clear c111b1); (try clear c113); (try clear c115); (try clear c116); (try clear c116b0); (try clear c116b1); (try clear c117); (try clear c117b0); (try clear c117b1); (try clear p2); obtain ⟨kq, x207_102, rfl, HA, HJ102, HO_4, HO_11, HO_15, HB⟩ := hcut
         cases kq with
         | zero => exact absurd HA.out (by simp [laws_FnNets.j1])
         | succ kj102 =>
           have H := HA.out; clear HA; simp only [laws_FnNets.j1] at H; by_cases c132 : x207_102 = true
           ·subst c132; rw [if_pos rfl] at H
            as_aux_lemma =>
              obtain rfl := Option.some.inj H; cases ht
           ·replace c132 := Bool.eq_false_iff.mpr c132; subst c132; rw [if_neg (show ¬ (false = true) by decide)] at H; have H' := Aside0.mk H; clear H; go_wp2; go_loopg [27] kj102 (fun kq v27 w' => ∃ (x27_3 : Int), v27 = .int .i64 x27_3 ∧ Aside0 (laws_FnNets.l0 kq t352 t353 t368 t376 x27_3 = some r) ∧ Aside0 (kq ≤ kj102) ∧ Aside0 (Kd.R k77 77 w' w.heap.size (fun k_ => some k_ ≠ ((.slice Ao104 t368.length co104) : Value).ownBlock ∧ some k_ ≠ ((.slice Ao106 t376.length co106) : Value).ownBlock) (.slice Ao15 t353.length co15) t353) ∧ Aside0 (Kd.R k77 77 w' w.heap.size (fun k_ => some k_ ≠ ((.slice Ao15 t353.length co15) : Value).ownBlock ∧ some k_ ≠ ((.slice Ao106 t376.length co106) : Value).ownBlock) (.slice Ao104 t368.length co104) t368) ∧ Aside0 (Kd.R k77 77 w' w.heap.size (fun k_ => some k_ ≠ ((.slice Ao15 t353.length co15) : Value).ownBlock ∧ some k_ ≠ ((.slice Ao104 t368.length co104) : Value).ownBlock) (.slice Ao106 t376.length co106) t376) ∧ Aside0 (Below w.heap.size w w'))
            case atStart => exact ⟨(0), z5_, H', ⟨Nat.le_refl _⟩, ⟨z7_⟩, ⟨z19_⟩, ⟨z15_⟩, ⟨z0_⟩⟩
            case round =>
              clear H'; (try clear c1); (try clear c2); (try clear p2); (try clear c3); (try clear c4); (try clear c5); (try clear c9); (try clear c11); (try clear c13); (try clear c15); (try clear c18); (try clear c24); (try clear c24b0); (try clear c24b1); (try clear c25); (try clear c25b0); (try clear c25b1); (try clear c27); (try clear c29); (try clear c29b0); (try clear c29b1); (try clear c30); (try clear c30b0); (try clear c30b1); (try clear c31); (try clear c31b0); (try clear c31b1); (try clear c33); (try clear c34); (try clear c34b0); (try clear c34b1); (try clear c35); (try clear c35b0); (try clear c35b1); (try clear c37); (try clear c38); (try clear c38b0); (try clear c38b1); (try clear c39); (try clear c40); (try clear c41); (try clear c42); (try clear c43); (try clear c44); (try clear c45); (try clear c51); (try clear c98); (try clear c110); (try clear c110b0); (try clear c110b1); (try clear c111); (try clear c111b0); (try clear c111b1); (try clear c113); (try clear c115); (try clear c116); (try clear c116b0); (try clear c116b1); (try clear c117); (try clear c117b0); (try clear c117b1); (try clear c132); (try clear p2); obtain ⟨x27_3, rfl, HA, HK3, HO_4, HO_11, HO_15, HB⟩ := hrel
              cases gk with
              | zero => exact absurd HA.out (by simp [laws_FnNets.l0])
              | succ k3 =>
                have H := HA.out; clear HA; simp only [laws_FnNets.l0] at H; by_cases c133 : x27_3 < (t368.length : Int)
                ·rw [if_pos c133] at H; have c133b0 : decide (x27_3 < (t368.length : Int)) = true := decide_eq_true c133; clear c133; by_cases c134 : 0 ≤ x27_3
                 ·rw [if_pos c134] at H; have c134b0 : decide (0 ≤ x27_3) = true := decide_eq_true c134; clear c134; replace H := Option.bind_eq_some_iff.mp H; obtain ⟨⟨t408, t409⟩, A1350, H⟩ := H; replace H : (if t409 = 0 then (if t408 = ((rd_T77 t368 x27_3).f2) then (if x27_3 > 0 then (if 0 ≤ (wrap64 (x27_3 - 1)) then (if (wrap64 (x27_3 - 1)) < (t368.length : Int) then (if ((rd_T77 t368 x27_3).f0) < ((rd_T77 t368 (wrap64 (x27_3 - 1))).f0) then (some false) else (if ((rd_T77 t368 x27_3).f0) = ((rd_T77 t368 (wrap64 (x27_3 - 1))).f0) then (if ((rd_T77 t368 x27_3).f1) ≤ ((rd_T77 t368 (wrap64 (x27_3 - 1))).f1) then (some false) else (laws_FnNets.l0 k3 t352 t353 t368 t376 (wrap64 (x27_3 + 1)))) else (laws_FnNets.l0 k3 t352 t353 t368 t376 (wrap64 (x27_3 + 1))))) else (none)) else (none)) else (laws_FnNets.l0 k3 t352 t353 t368 t376 (wrap64 (x27_3 + 1)))) else (some false)) else (some false)) = some r := H; have A135 := Aside0.mk A1350; clear A1350; by_cases c136 : t409 = 0
                  ·rw [if_pos c136] at H; have c136b0 : (t409 == 0) = true := beq_iff_eq.mpr c136; have c136b1 : (t409 != 0) = false := bne_eq_false_iff_eq.mpr c136; clear c136; by_cases c137 : t408 = ((rd_T77 t368 x27_3).f2)
                   ·rw [if_pos c137] at H; have c137b0 : (t408 == ((rd_T77 t368 x27_3).f2)) = true := beq_iff_eq.mpr c137; have c137b1 : (t408 != ((rd_T77 t368 x27_3).f2)) = false := bne_eq_false_iff_eq.mpr c137; clear c137; by_cases c138 : x27_3 > 0
                    ·rw [if_pos c138] at H; have c138b0 : decide (0 < x27_3) = true := decide_eq_true c138; clear c138; obtain ⟨ji139, hji139⟩ : ∃ j_ : Int, (wrap64 (x27_3 - 1)) = j_ := ⟨_, rfl⟩; (replace H : (if 0 ≤ (ji139) then (if (ji139) < (t368.length : Int) then (if ((rd_T77 t368 x27_3).f0) < ((rd_T77 t368 (ji139)).f0) then (some false) else (if ((rd_T77 t368 x27_3).f0) = ((rd_T77 t368 (ji139)).f0) then (if ((rd_T77 t368 x27_3).f1) ≤ ((rd_T77 t368 (ji139)).f1) then (some false) else (laws_FnNets.l0 k3 t352 t353 t368 t376 (wrap64 (x27_3 + 1)))) else (laws_FnNets.l0 k3 t352 t353 t368 t376 (wrap64 (x27_3 + 1))))) else (none)) else (none)) = some r := by first | (rw [hji139] at H; exact H) | (simp only [hji139] at H ⊢; exact H)); (try rw [hji139] at A135); have hji139w : (IntKind.i64.wrap (x27_3 - 1)) = ji139 := (i64_w _).trans hji139; by_cases c140 : 0 ≤ (ji139)
                     ·rw [if_pos c140] at H; have c140b0 : decide (0 ≤ (ji139)) = true := decide_eq_true c140; clear c140; by_cases c141 : (ji139) < (t368.length : Int)
                      ·rw [if_pos c141] at H; have c141b0 : decide ((ji139) < (t368.length : Int)) = true := decide_eq_true c141; clear c141; by_cases c142 : ((rd_T77 t368 x27_3).f0) < ((rd_T77 t368 (ji139)).f0)
                       ·rw [if_pos c142] at H; have c142b0 : decide (((rd_T77 t368 x27_3).f0) < ((rd_T77 t368 (ji139)).f0)) = true := decide_eq_true c142; clear c142
                        as_aux_lemma =>
                          obtain rfl := Option.some.inj H; cases ht
                       ·rw [if_neg c142] at H; have c142b0 : decide (((rd_T77 t368 x27_3).f0) < ((rd_T77 t368 (ji139)).f0)) = false := decide_eq_false c142; clear c142; by_cases c143 : ((rd_T77 t368 x27_3).f0) = ((rd_T77 t368 (ji139)).f0)
                        ·rw [if_pos c143] at H; have c143b0 : (((rd_T77 t368 x27_3).f0) == ((rd_T77 t368 (ji139)).f0)) = true := beq_iff_eq.mpr c143; have c143b1 : (((rd_T77 t368 x27_3).f0) != ((rd_T77 t368 (ji139)).f0)) = false := bne_eq_false_iff_eq.mpr c143; clear c143; by_cases c144 : ((rd_T77 t368 x27_3).f1) ≤ ((rd_T77 t368 (ji139)).f1)
                         ·rw [if_pos c144] at H; have c144b0 : decide (((rd_T77 t368 x27_3).f1) ≤ ((rd_T77 t368 (ji139)).f1)) = true := decide_eq_true c144; clear c144
                          as_aux_lemma =>
                            obtain rfl := Option.some.inj H; cases ht
                         ·rw [if_neg c144] at H; have c144b0 : decide (((rd_T77 t368 x27_3).f1) ≤ ((rd_T77 t368 (ji139)).f1)) = false := decide_eq_false c144; clear c144
                          as_aux_lemma =>
                            have H' := Aside0.mk H; clear H; (try go_wp2); have n0_ := Aside0.mk (Kd.R_drew HO_4.out); have n1_ := Aside0.mk (Kd.R_drew HO_11.out); have n2_ := Aside0.mk (Kd.R_drew HO_15.out); have n3_ := Aside0.mk (below_drew1 HB.out); clear HO_4; clear HO_11; clear HO_15; clear HB; have HO_4 := n0_; have HO_11 := n1_; have HO_15 := n2_; have HB := n3_; clear n0_ n1_ n2_ n3_; have p406 : 0 ≤ (x27_3 : Int) := of_decide_eq_true z2_; have q406 : x27_3 < (t368.length : Int) := of_decide_eq_true z2_; obtain ⟨ad406, e406, hx406_0, hx406_1, hx406_2⟩ := at_T77 (Kd.R_reads' HO_11.out).2.2 x27_3 p406 q406; cases e406; replace p406 := eq_true p406; replace q406 := eq_true q406; have p407 : 0 ≤ (x27_3 : Int) := of_decide_eq_true z2_; have q407 : x27_3 < (t368.length : Int) := of_decide_eq_true z2_; obtain ⟨ad407, e407, hx407_0, hx407_1, hx407_2⟩ := at_T77 (Kd.R_reads' HO_11.out).2.2 x27_3 p407 q407; obtain rfl : ad406 = ad407 := (by injection e407); replace p407 := eq_true p407; replace q407 := eq_true q407; refine start_ (n := 18) (S := fun w' => w'.cell? (ad406.add ((x27_3).toNat * 3)) = some (.int .i64 ((rd_T77 t368 x27_3).f0)) ∧ w'.cell? ⟨(ad406.add ((x27_3).toNat * 3)).block, (ad406.add ((x27_3).toNat * 3)).off + 1, none⟩ = some (.int .i64 ((rd_T77 t368 x27_3).f1)) ∧ w'.cell? ⟨(ad406.add ((x27_3).toNat * 3)).block, (ad406.add ((x27_3).toNat * 3)).off + 2, none⟩ = some (.int .i64 ((rd_T77 t368 x27_3).f2)) ∧ w'.cell? (ad406.add ((x27_3).toNat * 3)) = some (.int .i64 ((rd_T77 t368 x27_3).f0)) ∧ w'.cell? ⟨(ad406.add ((x27_3).toNat * 3)).block, (ad406.add ((x27_3).toNat * 3)).off + 1, none⟩ = some (.int .i64 ((rd_T77 t368 x27_3).f1)) ∧ w'.cell? ⟨(ad406.add ((x27_3).toNat * 3)).block, (ad406.add ((x27_3).toNat * 3)).off + 2, none⟩ = some (.int .i64 ((rd_T77 t368 x27_3).f2))) (ds := []) #[f_,f_,f_,f_,f_,f_,f_,f_,f_,f_,f_,f_,f_,f_,f_,f_,f_,f_] z4_ rfl rfl ⟨hx406_0, hx406_1, hx406_2, hx407_0, hx407_1, hx407_2⟩ (fun hHeld => ?_); refine with_tabW laws_FnNets.tab22 laws_FnNets.bits22 (fun HT_ HW_ => ?_); generalize wr.drew = w145 at HO_4 HO_11 HO_15 HB hx406_0 hx406_1 hx406_2 hx407_0 hx407_1 hx407_2 hHeld ⊢; refine pure_ (i := 0) (N := some 215) (v := ?_) (a' := ?_) #[t_,f_,f_,f_,f_,f_,f_,f_,f_,f_,f_,f_,f_,f_,f_,f_,f_,f_] rfl rfl (any_of HT_.out z4_) (fun _ _ _ h => h) (Or.inl ⟨by rfl, ?_⟩) ?_ ?_; rotate_left
                            ·intro w'; go_simp; with_reducible rfl
                            rotate_left
                            ·simp only [Act.put, List.setIfInBounds_toArray, List.set_cons_zero, List.set_cons_succ, i64_w, i32_w]; rfl
                            refine pure_ (i := 1) (N := some 216) (v := ?_) (a' := ?_) #[t_,t_,f_,f_,f_,f_,f_,f_,f_,f_,f_,f_,f_,f_,f_,f_,f_,f_] rfl rfl (any_of HT_.out z4_) (fun _ _ _ h => h) (Or.inl ⟨by rfl, ?_⟩) ?_ ?_; rotate_left
                            ·intro w'; go_simp; with_reducible rfl
                            rotate_left
                            ·simp only [Act.put, List.setIfInBounds_toArray, List.set_cons_zero, List.set_cons_succ, i64_w, i32_w]; rfl
                            refine pure_ (i := 2) (N := some 217) (v := ?_) (a' := ?_) #[t_,t_,t_,f_,f_,f_,f_,f_,f_,f_,f_,f_,f_,f_,f_,f_,f_,f_] rfl rfl (any_of HT_.out z4_) (fun _ _ _ h => h) (Or.inl ⟨by rfl, ?_⟩) ?_ ?_; rotate_left
                            ·intro w'; go_simp; with_reducible rfl
                            rotate_left
                            ·simp only [Act.put, List.setIfInBounds_toArray, List.set_cons_zero, List.set_cons_succ, i64_w, i32_w]; rfl
                            refine pure_ (i := 3) (N := some 218) (v := ?_) (a' := ?_) #[t_,t_,t_,t_,f_,f_,f_,f_,f_,f_,f_,f_,f_,f_,f_,f_,f_,f_] rfl rfl (any_of HT_.out z4_) (fun _ _ _ h => h) (Or.inl ⟨by rfl, ?_⟩) ?_ ?_; rotate_left
                            ·intro w'; go_simp; with_reducible rfl
                            rotate_left
                            ·simp only [Act.put, List.setIfInBounds_toArray, List.set_cons_zero, List.set_cons_succ, i64_w, i32_w]; rfl
                            refine pure_ (i := 4) (N := some 219) (v := ?_) (a' := ?_) #[t_,t_,t_,t_,t_,f_,f_,f_,f_,f_,f_,f_,f_,f_,f_,f_,f_,f_] rfl rfl (any_of HT_.out z4_) (fun _ _ _ h => h) (Or.inl ⟨by rfl, ?_⟩) ?_ ?_; rotate_left
                            ·intro w'; go_simp; with_reducible rfl
                            rotate_left
                            ·simp only [Act.put, List.setIfInBounds_toArray, List.set_cons_zero, List.set_cons_succ, i64_w, i32_w]; rfl
                            refine pure_ (i := 5) (N := some 220) (v := ?_) (a' := ?_) #[t_,t_,t_,t_,t_,t_,f_,f_,f_,f_,f_,f_,f_,f_,f_,f_,f_,f_] rfl rfl (any_of HT_.out z4_) (fun _ _ _ h => h) (Or.inl ⟨by rfl, ?_⟩) ?_ ?_; rotate_left
                            ·intro w'; go_simp; with_reducible rfl
                            rotate_left
                            ·simp only [Act.put, List.setIfInBounds_toArray, List.set_cons_zero, List.set_cons_succ, i64_w, i32_w]; rfl
                            refine pure_ (i := 7) (N := some 222) (v := ?_) (a' := ?_) #[t_,t_,t_,t_,t_,t_,f_,t_,f_,f_,f_,f_,f_,f_,f_,f_,f_,f_] rfl rfl (any_of HT_.out z4_) (fun _ _ _ h => h) (Or.inl ⟨by rfl, ?_⟩) ?_ ?_; rotate_left
                            ·intro w'; go_simp; with_reducible rfl
                            rotate_left
                            ·simp only [Act.put, List.setIfInBounds_toArray, List.set_cons_zero, List.set_cons_succ, i64_w, i32_w]; rfl
                            refine pure_ (i := 8) (N := some 223) (v := ?_) (a' := ?_) #[t_,t_,t_,t_,t_,t_,f_,t_,t_,f_,f_,f_,f_,f_,f_,f_,f_,f_] rfl rfl (any_of HT_.out z4_) (fun _ _ _ h => h) (Or.inl ⟨by rfl, ?_⟩) ?_ ?_; rotate_left
                            ·intro w'; go_simp; with_reducible rfl
                            rotate_left
                            ·simp only [Act.put, List.setIfInBounds_toArray, List.set_cons_zero, List.set_cons_succ, i64_w, i32_w]; rfl
                            refine pure_ (i := 9) (N := some 224) (v := ?_) (a' := ?_) #[t_,t_,t_,t_,t_,t_,f_,t_,t_,t_,f_,f_,f_,f_,f_,f_,f_,f_] rfl rfl (any_of HT_.out z4_) (fun _ _ _ h => h) (Or.inl ⟨by rfl, ?_⟩) ?_ ?_; rotate_left
                            ·intro w'; go_simp; with_reducible rfl
                            rotate_left
                            ·simp only [Act.put, List.setIfInBounds_toArray, List.set_cons_zero, List.set_cons_succ, i64_w, i32_w]; rfl
                            refine pure_ (i := 10) (N := some 225) (v := ?_) (a' := ?_) #[t_,t_,t_,t_,t_,t_,f_,t_,t_,t_,t_,f_,f_,f_,f_,f_,f_,f_] rfl rfl (any_of HT_.out z4_) (fun _ _ _ h => h) (Or.inl ⟨by rfl, ?_⟩) ?_ ?_; rotate_left
                            ·intro w'; go_simp; with_reducible rfl
                            rotate_left
                            ·simp only [Act.put, List.setIfInBounds_toArray, List.set_cons_zero, List.set_cons_succ, i64_w, i32_w]; rfl
                            refine take_ (i := 6) (N := some 221) (v := ?_) (a' := ?_) #[t_,t_,t_,t_,t_,t_,t_,t_,t_,t_,t_,f_,f_,f_,f_,f_,f_,f_] rfl rfl (take_ofW HT_.out HW_.out z4_) (fun _ _ _ h => h) (Or.inl ⟨by rfl, ?_⟩) hHeld ?_ ?_; rotate_left
                            ·rintro w' ⟨s0, s1, s2, s3, s4, s5⟩; go_simp; with_reducible rfl
                            rotate_left
                            ·simp only [Act.put, List.setIfInBounds_toArray, List.set_cons_zero, List.set_cons_succ, i64_w, i32_w]; rfl
                            refine take_ (i := 11) (N := some 226) (v := ?_) (a' := ?_) #[t_,t_,t_,t_,t_,t_,t_,t_,t_,t_,t_,t_,f_,f_,f_,f_,f_,f_] rfl rfl (take_ofW HT_.out HW_.out z4_) (fun _ _ _ h => h) (Or.inl ⟨by rfl, ?_⟩) hHeld ?_ ?_; rotate_left
                            ·rintro w' ⟨s0, s1, s2, s3, s4, s5⟩; go_simp; with_reducible rfl
                            rotate_left
                            ·simp only [Act.put, List.setIfInBounds_toArray, List.set_cons_zero, List.set_cons_succ, i64_w, i32_w]; rfl
                            refine one_ (i := 12) (N := some 227) #[t_,t_,t_,t_,t_,t_,t_,t_,t_,t_,t_,t_,t_,f_,f_,f_,f_,f_] rfl rfl (one_of HT_.out z4_) (by decide) (fun K hK => ?_); refine goes_ Tryd.func52 z4_ rfl #[.int .i64 t352, .slice Ao15 t353.length co15, .int .i64 ((rd_T77 t368 x27_3).f0), .int .i64 ((rd_T77 t368 x27_3).f1)] (by rfl) rfl rfl z1_ ?_; (with_reducible refine (impl_OwedBetween.calls k3 t352 _ _ t353 ((rd_T77 t368 x27_3).f0) ((rd_T77 t368 x27_3).f1) t408 t409 _ ?side1 ?side2 A135.out).mono ?_); (case side1 => repeat (first | exact (Kd.R_reads' HO_4.out).2.2 | (with_reducible refine Kd.C_alloc ?_ _) | (with_reducible refine Kd.C_drewN ?_ _) | (with_reducible refine Kd.C_drew ?_))); (case side2 => exact (Kd.R_reads' HO_4.out).2.1); rintro e w146 ⟨rfl, hb⟩; have HS0_ := (hb.cell (World.block_lt_of_cell? _ _ (hHeld.1))).trans (hHeld.1); have HS1_ := (hb.cell (World.block_lt_of_cell? _ _ (hHeld.2.1))).trans (hHeld.2.1); have HS2_ := (hb.cell (World.block_lt_of_cell? _ _ (hHeld.2.2.1))).trans (hHeld.2.2.1); have HS3_ := (hb.cell (World.block_lt_of_cell? _ _ (hHeld.2.2.2.1))).trans (hHeld.2.2.2.1); have HS4_ := (hb.cell (World.block_lt_of_cell? _ _ (hHeld.2.2.2.2.1))).trans (hHeld.2.2.2.2.1); have HS5_ := (hb.cell (World.block_lt_of_cell? _ _ (hHeld.2.2.2.2.2))).trans (hHeld.2.2.2.2.2); refine ⟨_, rfl, ?_⟩; have n0_ := Aside0.mk (Kd.R_below z7_ hb); have n1_ := Aside0.mk (Kd.R_below z19_ hb); have n2_ := Aside0.mk (Kd.R_below z15_ hb); have n3_ := Aside0.mk (below_step z0_ hb); clear HO_4; clear HO_11; clear HO_15; clear HB; have HO_4 := n0_; have HO_11 := n1_; have HO_15 := n2_; have HB := n3_; clear n0_ n1_ n2_ n3_; (try clear hb); (try clear hb2); (try clear hk); (try clear hi); refine hK.out _ _ ⟨HS0_, HS1_, HS2_, HS3_, HS4_, HS5_⟩ (fun hHeld => ?_); clear hK K; refine norm_ (a' := ?_) ?_ ?_; rotate_left
                            ·show Act.put _ (some 227) _ = _; simp only [Act.put, List.setIfInBounds_toArray, List.set_cons_zero, List.set_cons_succ, i64_w, i32_w]; rfl
                            refine pure_ (i := 13) (N := some 214) (v := ?_) (a' := ?_) #[t_,t_,t_,t_,t_,t_,t_,t_,t_,t_,t_,t_,t_,t_,f_,f_,f_,f_] rfl rfl (any_of HT_.out z4_) (fun _ _ _ h => h) (Or.inl ⟨by rfl, ?_⟩) ?_ ?_; rotate_left
                            ·intro w'; go_simp; with_reducible rfl
                            rotate_left
                            ·simp only [Act.put, List.setIfInBounds_toArray, List.set_cons_zero, List.set_cons_succ, i64_w, i32_w]; rfl
                            refine pure_ (i := 14) (N := some 228) (v := ?_) (a' := ?_) #[t_,t_,t_,t_,t_,t_,t_,t_,t_,t_,t_,t_,t_,t_,t_,f_,f_,f_] rfl rfl (any_of HT_.out z4_) (fun _ _ _ h => h) (Or.inl ⟨by rfl, ?_⟩) ?_ ?_; rotate_left
                            ·intro w'; go_simp; with_reducible rfl
                            rotate_left
                            ·simp only [Act.put, List.setIfInBounds_toArray, List.set_cons_zero, List.set_cons_succ, i64_w, i32_w]; rfl
                            refine pure_ (i := 15) (N := some 229) (v := ?_) (a' := ?_) #[t_,t_,t_,t_,t_,t_,t_,t_,t_,t_,t_,t_,t_,t_,t_,t_,f_,f_] rfl rfl (any_of HT_.out z4_) (fun _ _ _ h => h) (Or.inl ⟨by rfl, ?_⟩) ?_ ?_; rotate_left
                            ·intro w'; go_simp; with_reducible rfl
                            rotate_left
                            ·simp only [Act.put, List.setIfInBounds_toArray, List.set_cons_zero, List.set_cons_succ, i64_w, i32_w]; rfl
                            refine pure_ (i := 16) (N := some 28) (v := ?_) (a' := ?_) #[t_,t_,t_,t_,t_,t_,t_,t_,t_,t_,t_,t_,t_,t_,t_,t_,t_,f_] rfl rfl (any_of HT_.out z4_) (fun _ _ _ h => h) (Or.inl ⟨by rfl, ?_⟩) ?_ ?_; rotate_left
                            ·intro w'; go_simp; with_reducible rfl
                            rotate_left
                            ·simp only [Act.put, List.setIfInBounds_toArray, List.set_cons_zero, List.set_cons_succ, i64_w, i32_w]; rfl
                            refine pure_ (i := 17) (N := some 29) (v := ?_) (a' := ?_) #[t_,t_,t_,t_,t_,t_,t_,t_,t_,t_,t_,t_,t_,t_,t_,t_,t_,t_] rfl rfl (any_of HT_.out z4_) (fun _ _ _ h => h) (Or.inl ⟨by rfl, ?_⟩) ?_ ?_; rotate_left
                            ·intro w'; go_simp; with_reducible rfl
                            rotate_left
                            ·simp only [Act.put, List.setIfInBounds_toArray, List.set_cons_zero, List.set_cons_succ, i64_w, i32_w]; rfl
                            refine done_ (done_of HT_.out z4_) ?_; (try go_wp2); have n0_ := Aside0.mk (Kd.R_drew HO_4.out); have n1_ := Aside0.mk (Kd.R_drew HO_11.out); have n2_ := Aside0.mk (Kd.R_drew HO_15.out); have n3_ := Aside0.mk (below_drew1 HB.out); clear HO_4; clear HO_11; clear HO_15; clear HB; have HO_4 := n0_; have HO_11 := n1_; have HO_15 := n2_; have HB := n3_; clear n0_ n1_ n2_ n3_; have p410 : 0 ≤ (x27_3 : Int) := of_decide_eq_true z2_; have q410 : x27_3 < (t368.length : Int) := of_decide_eq_true z2_; obtain ⟨ad410, e410, hx410_0, hx410_1, hx410_2⟩ := at_T77 (Kd.R_reads' HO_11.out).2.2 x27_3 p410 q410; obtain rfl : ad406 = ad410 := (by injection e410); replace p410 := eq_true p410; replace q410 := eq_true q410; have p411 : 0 ≤ (x27_3 : Int) := of_decide_eq_true z2_; have q411 : x27_3 < (t368.length : Int) := of_decide_eq_true z2_; obtain ⟨ad411, e411, hx411_0, hx411_1, hx411_2⟩ := at_T77 (Kd.R_reads' HO_11.out).2.2 x27_3 p411 q411; obtain rfl : ad406 = ad411 := (by injection e411); replace p411 := eq_true p411; replace q411 := eq_true q411; have p412 : 0 ≤ ((ji139) : Int) := of_decide_eq_true z2_; have q412 : (ji139) < (t368.length : Int) := of_decide_eq_true z2_; obtain ⟨ad412, e412, hx412_0, hx412_1, hx412_2⟩ := at_T77 (Kd.R_reads' HO_11.out).2.2 (ji139) p412 q412; obtain rfl : ad406 = ad412 := (by injection e412); replace p412 := eq_true p412; replace q412 := eq_true q412; have p413 : 0 ≤ (x27_3 : Int) := of_decide_eq_true z2_; have q413 : x27_3 < (t368.length : Int) := of_decide_eq_true z2_; obtain ⟨ad413, e413, hx413_0, hx413_1, hx413_2⟩ := at_T77 (Kd.R_reads' HO_11.out).2.2 x27_3 p413 q413; obtain rfl : ad406 = ad413 := (by injection e413); replace p413 := eq_true p413; replace q413 := eq_true q413; have p414 : 0 ≤ ((ji139) : Int) := of_decide_eq_true z2_; have q414 : (ji139) < (t368.length : Int) := of_decide_eq_true z2_; obtain ⟨ad414, e414, hx414_0, hx414_1, hx414_2⟩ := at_T77 (Kd.R_reads' HO_11.out).2.2 (ji139) p414 q414; obtain rfl : ad406 = ad414 := (by injection e414); replace p414 := eq_true p414; replace q414 := eq_true q414; have p415 : 0 ≤ (x27_3 : Int) := of_decide_eq_true z2_; have q415 : x27_3 < (t368.length : Int) := of_decide_eq_true z2_; obtain ⟨ad415, e415, hx415_0, hx415_1, hx415_2⟩ := at_T77 (Kd.R_reads' HO_11.out).2.2 x27_3 p415 q415; obtain rfl : ad406 = ad415 := (by injection e415); replace p415 := eq_true p415; replace q415 := eq_true q415; have p416 : 0 ≤ ((ji139) : Int) := of_decide_eq_true z2_; have q416 : (ji139) < (t368.length : Int) := of_decide_eq_true z2_; obtain ⟨ad416, e416, hx416_0, hx416_1, hx416_2⟩ := at_T77 (Kd.R_reads' HO_11.out).2.2 (ji139) p416 q416; obtain rfl : ad406 = ad416 := (by injection e416); replace p416 := eq_true p416; replace q416 := eq_true q416; refine start_ (n := 57) (S := fun w' => w'.cell? (ad406.add ((x27_3).toNat * 3)) = some (.int .i64 ((rd_T77 t368 x27_3).f0)) ∧ w'.cell? ⟨(ad406.add ((x27_3).toNat * 3)).block, (ad406.add ((x27_3).toNat * 3)).off + 1, none⟩ = some (.int .i64 ((rd_T77 t368 x27_3).f1)) ∧ w'.cell? ⟨(ad406.add ((x27_3).toNat * 3)).block, (ad406.add ((x27_3).toNat * 3)).off + 2, none⟩ = some (.int .i64 ((rd_T77 t368 x27_3).f2)) ∧ w'.cell? (ad406.add ((x27_3).toNat * 3)) = some (.int .i64 ((rd_T77 t368 x27_3).f0)) ∧ w'.cell? ⟨(ad406.add ((x27_3).toNat * 3)).block, (ad406.add ((x27_3).toNat * 3)).off + 1, none⟩ = some (.int .i64 ((rd_T77 t368 x27_3).f1)) ∧ w'.cell? ⟨(ad406.add ((x27_3).toNat * 3)).block, (ad406.add ((x27_3).toNat * 3)).off + 2, none⟩ = some (.int .i64 ((rd_T77 t368 x27_3).f2)) ∧ w'.cell? (ad406.add (((ji139)).toNat * 3)) = some (.int .i64 ((rd_T77 t368 (ji139)).f0)) ∧ w'.cell? ⟨(ad406.add (((ji139)).toNat * 3)).block, (ad406.add (((ji139)).toNat * 3)).off + 1, none⟩ = some (.int .i64 ((rd_T77 t368 (ji139)).f1)) ∧ w'.cell? ⟨(ad406.add (((ji139)).toNat * 3)).block, (ad406.add (((ji139)).toNat * 3)).off + 2, none⟩ = some (.int .i64 ((rd_T77 t368 (ji139)).f2)) ∧ w'.cell? (ad406.add ((x27_3).toNat * 3)) = some (.int .i64 ((rd_T77 t368 x27_3).f0)) ∧ w'.cell? ⟨(ad406.add ((x27_3).toNat * 3)).block, (ad406.add ((x27_3).toNat * 3)).off + 1, none⟩ = some (.int .i64 ((rd_T77 t368 x27_3).f1)) ∧ w'.cell? ⟨(ad406.add ((x27_3).toNat * 3)).block, (ad406.add ((x27_3).toNat * 3)).off + 2, none⟩ = some (.int .i64 ((rd_T77 t368 x27_3).f2)) ∧ w'.cell? (ad406.add (((ji139)).toNat * 3)) = some (.int .i64 ((rd_T77 t368 (ji139)).f0)) ∧ w'.cell? ⟨(ad406.add (((ji139)).toNat * 3)).block, (ad406.add (((ji139)).toNat * 3)).off + 1, none⟩ = some (.int .i64 ((rd_T77 t368 (ji139)).f1)) ∧ w'.cell? ⟨(ad406.add (((ji139)).toNat * 3)).block, (ad406.add (((ji139)).toNat * 3)).off + 2, none⟩ = some (.int .i64 ((rd_T77 t368 (ji139)).f2)) ∧ w'.cell? (ad406.add ((x27_3).toNat * 3)) = some (.int .i64 ((rd_T77 t368 x27_3).f0)) ∧ w'.cell? ⟨(ad406.add ((x27_3).toNat * 3)).block, (ad406.add ((x27_3).toNat * 3)).off + 1, none⟩ = some (.int .i64 ((rd_T77 t368 x27_3).f1)) ∧ w'.cell? ⟨(ad406.add ((x27_3).toNat * 3)).block, (ad406.add ((x27_3).toNat * 3)).off + 2, none⟩ = some (.int .i64 ((rd_T77 t368 x27_3).f2)) ∧ w'.cell? (ad406.add (((ji139)).toNat * 3)) = some (.int .i64 ((rd_T77 t368 (ji139)).f0)) ∧ w'.cell? ⟨(ad406.add (((ji139)).toNat * 3)).block, (ad406.add (((ji139)).toNat * 3)).off + 1, none⟩ = some (.int .i64 ((rd_T77 t368 (ji139)).f1)) ∧ w'.cell? ⟨(ad406.add (((ji139)).toNat * 3)).block, (ad406.add (((ji139)).toNat * 3)).off + 2, none⟩ = some (.int .i64 ((rd_T77 t368 (ji139)).f2))) (ds := []) #[f_,f_,f_,f_,f_,f_,f_,f_,f_,f_,f_,f_,f_,f_,f_,f_,f_,f_,f_,f_,f_,f_,f_,f_,f_,f_,f_,f_,f_,f_,f_,f_,f_,f_,f_,f_,f_,f_,f_,f_,f_,f_,f_,f_,f_,f_,f_,f_,f_,f_,f_,f_,f_,f_,f_,f_,f_] z4_ rfl rfl ⟨hx410_0, hx410_1, hx410_2, hx411_0, hx411_1, hx411_2, hx412_0, hx412_1, hx412_2, hx413_0, hx413_1, hx413_2, hx414_0, hx414_1, hx414_2, hx415_0, hx415_1, hx415_2, hx416_0, hx416_1, hx416_2⟩ (fun hHeld => ?_); refine with_tabW laws_FnNets.tab23 laws_FnNets.bits23 (fun HT_ HW_ => ?_); generalize w146.drew = w147 at HO_4 HO_11 HO_15 HB hx410_0 hx410_1 hx410_2 hx411_0 hx411_1 hx411_2 hx412_0 hx412_1 hx412_2 hx413_0 hx413_1 hx413_2 hx414_0 hx414_1 hx414_2 hx415_0 hx415_1 hx415_2 hx416_0 hx416_1 hx416_2 hHeld ⊢; refine pure_ (i := 0) (N := some 230) (v := ?_) (a' := ?_) #[t_,f_,f_,f_,f_,f_,f_,f_,f_,f_,f_,f_,f_,f_,f_,f_,f_,f_,f_,f_,f_,f_,f_,f_,f_,f_,f_,f_,f_,f_,f_,f_,f_,f_,f_,f_,f_,f_,f_,f_,f_,f_,f_,f_,f_,f_,f_,f_,f_,f_,f_,f_,f_,f_,f_,f_,f_] rfl rfl (any_of HT_.out z4_) (fun _ _ _ h => h) (Or.inl ⟨by rfl, ?_⟩) ?_ ?_; rotate_left
                            ·intro w'; go_simp; with_reducible rfl
                            rotate_left
                            ·simp only [Act.put, List.setIfInBounds_toArray, List.set_cons_zero, List.set_cons_succ, i64_w, i32_w]; rfl
                            refine pure_ (i := 1) (N := some 231) (v := ?_) (a' := ?_) #[t_,t_,f_,f_,f_,f_,f_,f_,f_,f_,f_,f_,f_,f_,f_,f_,f_,f_,f_,f_,f_,f_,f_,f_,f_,f_,f_,f_,f_,f_,f_,f_,f_,f_,f_,f_,f_,f_,f_,f_,f_,f_,f_,f_,f_,f_,f_,f_,f_,f_,f_,f_,f_,f_,f_,f_,f_] rfl rfl (any_of HT_.out z4_) (fun _ _ _ h => h) (Or.inl ⟨by rfl, ?_⟩) ?_ ?_; rotate_left
                            ·intro w'; go_simp; with_reducible rfl
                            rotate_left
                            ·simp only [Act.put, List.setIfInBounds_toArray, List.set_cons_zero, List.set_cons_succ, i64_w, i32_w]; rfl
                            refine pure_ (i := 2) (N := some 232) (v := ?_) (a' := ?_) #[t_,t_,t_,f_,f_,f_,f_,f_,f_,f_,f_,f_,f_,f_,f_,f_,f_,f_,f_,f_,f_,f_,f_,f_,f_,f_,f_,f_,f_,f_,f_,f_,f_,f_,f_,f_,f_,f_,f_,f_,f_,f_,f_,f_,f_,f_,f_,f_,f_,f_,f_,f_,f_,f_,f_,f_,f_] rfl rfl (any_of HT_.out z4_) (fun _ _ _ h => h) (Or.inl ⟨by rfl, ?_⟩) ?_ ?_; rotate_left
                            ·intro w'; go_simp; with_reducible rfl
                            rotate_left
                            ·simp only [Act.put, List.setIfInBounds_toArray, List.set_cons_zero, List.set_cons_succ, i64_w, i32_w]; rfl
                            refine pure_ (i := 3) (N := some 233) (v := ?_) (a' := ?_) #[t_,t_,t_,t_,f_,f_,f_,f_,f_,f_,f_,f_,f_,f_,f_,f_,f_,f_,f_,f_,f_,f_,f_,f_,f_,f_,f_,f_,f_,f_,f_,f_,f_,f_,f_,f_,f_,f_,f_,f_,f_,f_,f_,f_,f_,f_,f_,f_,f_,f_,f_,f_,f_,f_,f_,f_,f_] rfl rfl (any_of HT_.out z4_) (fun _ _ _ h => h) (Or.inl ⟨by rfl, ?_⟩) ?_ ?_; rotate_left
                            ·intro w'; go_simp; with_reducible rfl
                            rotate_left
                            ·simp only [Act.put, List.setIfInBounds_toArray, List.set_cons_zero, List.set_cons_succ, i64_w, i32_w]; rfl
                            refine pure_ (i := 4) (N := some 234) (v := ?_) (a' := ?_) #[t_,t_,t_,t_,t_,f_,f_,f_,f_,f_,f_,f_,f_,f_,f_,f_,f_,f_,f_,f_,f_,f_,f_,f_,f_,f_,f_,f_,f_,f_,f_,f_,f_,f_,f_,f_,f_,f_,f_,f_,f_,f_,f_,f_,f_,f_,f_,f_,f_,f_,f_,f_,f_,f_,f_,f_,f_] rfl rfl (any_of HT_.out z4_) (fun _ _ _ h => h) (Or.inl ⟨by rfl, ?_⟩) ?_ ?_; rotate_left
                            ·intro w'; go_simp; with_reducible rfl
                            rotate_left
                            ·simp only [Act.put, List.setIfInBounds_toArray, List.set_cons_zero, List.set_cons_succ, i64_w, i32_w]; rfl
                            refine pure_ (i := 5) (N := some 235) (v := ?_) (a' := ?_) #[t_,t_,t_,t_,t_,t_,f_,f_,f_,f_,f_,f_,f_,f_,f_,f_,f_,f_,f_,f_,f_,f_,f_,f_,f_,f_,f_,f_,f_,f_,f_,f_,f_,f_,f_,f_,f_,f_,f_,f_,f_,f_,f_,f_,f_,f_,f_,f_,f_,f_,f_,f_,f_,f_,f_,f_,f_] rfl rfl (any_of HT_.out z4_) (fun _ _ _ h => h) (Or.inl ⟨by rfl, ?_⟩) ?_ ?_; rotate_left
                            ·intro w'; go_simp; with_reducible rfl
                            rotate_left
                            ·simp only [Act.put, List.setIfInBounds_toArray, List.set_cons_zero, List.set_cons_succ, i64_w, i32_w]; rfl
                            refine pure_ (i := 6) (N := some 236) (v := ?_) (a' := ?_) #[t_,t_,t_,t_,t_,t_,t_,f_,f_,f_,f_,f_,f_,f_,f_,f_,f_,f_,f_,f_,f_,f_,f_,f_,f_,f_,f_,f_,f_,f_,f_,f_,f_,f_,f_,f_,f_,f_,f_,f_,f_,f_,f_,f_,f_,f_,f_,f_,f_,f_,f_,f_,f_,f_,f_,f_,f_] rfl rfl (any_of HT_.out z4_) (fun _ _ _ h => h) (Or.inl ⟨by rfl, ?_⟩) ?_ ?_; rotate_left
                            ·intro w'; go_simp; with_reducible rfl
                            rotate_left
                            ·simp only [Act.put, List.setIfInBounds_toArray, List.set_cons_zero, List.set_cons_succ, i64_w, i32_w]; rfl
                            refine pure_ (i := 7) (N := some 237) (v := ?_) (a' := ?_) #[t_,t_,t_,t_,t_,t_,t_,t_,f_,f_,f_,f_,f_,f_,f_,f_,f_,f_,f_,f_,f_,f_,f_,f_,f_,f_,f_,f_,f_,f_,f_,f_,f_,f_,f_,f_,f_,f_,f_,f_,f_,f_,f_,f_,f_,f_,f_,f_,f_,f_,f_,f_,f_,f_,f_,f_,f_] rfl rfl (any_of HT_.out z4_) (fun _ _ _ h => h) (Or.inl ⟨by rfl, ?_⟩) ?_ ?_; rotate_left
                            ·intro w'; go_simp; with_reducible rfl
                            rotate_left
                            ·simp only [Act.put, List.setIfInBounds_toArray, List.set_cons_zero, List.set_cons_succ, i64_w, i32_w]; rfl
                            refine take_ (i := 8) (N := some 238) (v := ?_) (a' := ?_) #[t_,t_,t_,t_,t_,t_,t_,t_,t_,f_,f_,f_,f_,f_,f_,f_,f_,f_,f_,f_,f_,f_,f_,f_,f_,f_,f_,f_,f_,f_,f_,f_,f_,f_,f_,f_,f_,f_,f_,f_,f_,f_,f_,f_,f_,f_,f_,f_,f_,f_,f_,f_,f_,f_,f_,f_,f_] rfl rfl (take_ofW HT_.out HW_.out z4_) (fun _ _ _ h => h) (Or.inl ⟨by rfl, ?_⟩) hHeld ?_ ?_; rotate_left
                            ·rintro w' ⟨s0, s1, s2, s3, s4, s5, s6, s7, s8, s9, s10, s11, s12, s13, s14, s15, s16, s17, s18, s19, s20⟩; go_simp; with_reducible rfl
                            rotate_left
                            ·simp only [Act.put, List.setIfInBounds_toArray, List.set_cons_zero, List.set_cons_succ, i64_w, i32_w]; rfl
                            refine pure_ (i := 9) (N := some 239) (v := ?_) (a' := ?_) #[t_,t_,t_,t_,t_,t_,t_,t_,t_,t_,f_,f_,f_,f_,f_,f_,f_,f_,f_,f_,f_,f_,f_,f_,f_,f_,f_,f_,f_,f_,f_,f_,f_,f_,f_,f_,f_,f_,f_,f_,f_,f_,f_,f_,f_,f_,f_,f_,f_,f_,f_,f_,f_,f_,f_,f_,f_] rfl rfl (any_of HT_.out z4_) (fun _ _ _ h => h) (Or.inl ⟨by rfl, ?_⟩) ?_ ?_; rotate_left
                            ·intro w'; go_simp; with_reducible rfl
                            rotate_left
                            ·simp only [Act.put, List.setIfInBounds_toArray, List.set_cons_zero, List.set_cons_succ, i64_w, i32_w]; rfl
                            refine pure_ (i := 10) (N := some 240) (v := ?_) (a' := ?_) #[t_,t_,t_,t_,t_,t_,t_,t_,t_,t_,t_,f_,f_,f_,f_,f_,f_,f_,f_,f_,f_,f_,f_,f_,f_,f_,f_,f_,f_,f_,f_,f_,f_,f_,f_,f_,f_,f_,f_,f_,f_,f_,f_,f_,f_,f_,f_,f_,f_,f_,f_,f_,f_,f_,f_,f_,f_] rfl rfl (any_of HT_.out z4_) (fun _ _ _ h => h) (Or.inl ⟨by rfl, ?_⟩) ?_ ?_; rotate_left
                            ·intro w'; go_simp; with_reducible rfl
                            rotate_left
                            ·simp only [Act.put, List.setIfInBounds_toArray, List.set_cons_zero, List.set_cons_succ, i64_w, i32_w]; rfl
                            refine pure_ (i := 11) (N := some 241) (v := ?_) (a' := ?_) #[t_,t_,t_,t_,t_,t_,t_,t_,t_,t_,t_,t_,f_,f_,f_,f_,f_,f_,f_,f_,f_,f_,f_,f_,f_,f_,f_,f_,f_,f_,f_,f_,f_,f_,f_,f_,f_,f_,f_,f_,f_,f_,f_,f_,f_,f_,f_,f_,f_,f_,f_,f_,f_,f_,f_,f_,f_] rfl rfl (any_of HT_.out z4_) (fun _ _ _ h => h) (Or.inl ⟨by rfl, ?_⟩) ?_ ?_; rotate_left
                            ·intro w'; go_simp; with_reducible rfl
                            rotate_left
                            ·simp only [Act.put, List.setIfInBounds_toArray, List.set_cons_zero, List.set_cons_succ, i64_w, i32_w]; rfl
                            refine pure_ (i := 12) (N := some 242) (v := ?_) (a' := ?_) #[t_,t_,t_,t_,t_,t_,t_,t_,t_,t_,t_,t_,t_,f_,f_,f_,f_,f_,f_,f_,f_,f_,f_,f_,f_,f_,f_,f_,f_,f_,f_,f_,f_,f_,f_,f_,f_,f_,f_,f_,f_,f_,f_,f_,f_,f_,f_,f_,f_,f_,f_,f_,f_,f_,f_,f_,f_] rfl rfl (any_of HT_.out z4_) (fun _ _ _ h => h) (Or.inl ⟨by rfl, ?_⟩) ?_ ?_; rotate_left
                            ·intro w'; go_simp; with_reducible rfl
                            rotate_left
                            ·simp only [Act.put, List.setIfInBounds_toArray, List.set_cons_zero, List.set_cons_succ, i64_w, i32_w]; rfl
                            refine pure_ (i := 13) (N := some 243) (v := ?_) (a' := ?_) #[t_,t_,t_,t_,t_,t_,t_,t_,t_,t_,t_,t_,t_,t_,f_,f_,f_,f_,f_,f_,f_,f_,f_,f_,f_,f_,f_,f_,f_,f_,f_,f_,f_,f_,f_,f_,f_,f_,f_,f_,f_,f_,f_,f_,f_,f_,f_,f_,f_,f_,f_,f_,f_,f_,f_,f_,f_] rfl rfl (any_of HT_.out z4_) (fun _ _ _ h => h) (Or.inl ⟨by rfl, ?_⟩) ?_ ?_; rotate_left
                            ·intro w'; go_simp; with_reducible rfl
                            rotate_left
                            ·simp only [Act.put, List.setIfInBounds_toArray, List.set_cons_zero, List.set_cons_succ, i64_w, i32_w]; rfl
                            refine pure_ (i := 14) (N := some 244) (v := ?_) (a' := ?_) #[t_,t_,t_,t_,t_,t_,t_,t_,t_,t_,t_,t_,t_,t_,t_,f_,f_,f_,f_,f_,f_,f_,f_,f_,f_,f_,f_,f_,f_,f_,f_,f_,f_,f_,f_,f_,f_,f_,f_,f_,f_,f_,f_,f_,f_,f_,f_,f_,f_,f_,f_,f_,f_,f_,f_,f_,f_] rfl rfl (any_of HT_.out z4_) (fun _ _ _ h => h) (Or.inl ⟨by rfl, ?_⟩) ?_ ?_; rotate_left
                            ·intro w'; go_simp; with_reducible rfl
                            rotate_left
                            ·simp only [Act.put, List.setIfInBounds_toArray, List.set_cons_zero, List.set_cons_succ, i64_w, i32_w]; rfl
                            refine pure_ (i := 15) (N := some 245) (v := ?_) (a' := ?_) #[t_,t_,t_,t_,t_,t_,t_,t_,t_,t_,t_,t_,t_,t_,t_,t_,f_,f_,f_,f_,f_,f_,f_,f_,f_,f_,f_,f_,f_,f_,f_,f_,f_,f_,f_,f_,f_,f_,f_,f_,f_,f_,f_,f_,f_,f_,f_,f_,f_,f_,f_,f_,f_,f_,f_,f_,f_] rfl rfl (any_of HT_.out z4_) (fun _ _ _ h => h) (Or.inl ⟨by rfl, ?_⟩) ?_ ?_; rotate_left
                            ·intro w'; go_simp; with_reducible rfl
                            rotate_left
                            ·simp only [Act.put, List.setIfInBounds_toArray, List.set_cons_zero, List.set_cons_succ, i64_w, i32_w]; rfl
                            refine pure_ (i := 16) (N := some 246) (v := ?_) (a' := ?_) #[t_,t_,t_,t_,t_,t_,t_,t_,t_,t_,t_,t_,t_,t_,t_,t_,t_,f_,f_,f_,f_,f_,f_,f_,f_,f_,f_,f_,f_,f_,f_,f_,f_,f_,f_,f_,f_,f_,f_,f_,f_,f_,f_,f_,f_,f_,f_,f_,f_,f_,f_,f_,f_,f_,f_,f_,f_] rfl rfl (any_of HT_.out z4_) (fun _ _ _ h => h) (Or.inl ⟨by rfl, ?_⟩) ?_ ?_; rotate_left
                            ·intro w'; go_simp; with_reducible rfl
                            rotate_left
                            ·simp only [Act.put, List.setIfInBounds_toArray, List.set_cons_zero, List.set_cons_succ, i64_w, i32_w]; rfl
                            refine pure_ (i := 17) (N := some 247) (v := ?_) (a' := ?_) #[t_,t_,t_,t_,t_,t_,t_,t_,t_,t_,t_,t_,t_,t_,t_,t_,t_,t_,f_,f_,f_,f_,f_,f_,f_,f_,f_,f_,f_,f_,f_,f_,f_,f_,f_,f_,f_,f_,f_,f_,f_,f_,f_,f_,f_,f_,f_,f_,f_,f_,f_,f_,f_,f_,f_,f_,f_] rfl rfl (any_of HT_.out z4_) (fun _ _ _ h => h) (Or.inl ⟨by rfl, ?_⟩) ?_ ?_; rotate_left
                            ·intro w'; go_simp; with_reducible rfl
                            rotate_left
                            ·simp only [Act.put, List.setIfInBounds_toArray, List.set_cons_zero, List.set_cons_succ, i64_w, i32_w]; rfl
                            refine pure_ (i := 18) (N := some 248) (v := ?_) (a' := ?_) #[t_,t_,t_,t_,t_,t_,t_,t_,t_,t_,t_,t_,t_,t_,t_,t_,t_,t_,t_,f_,f_,f_,f_,f_,f_,f_,f_,f_,f_,f_,f_,f_,f_,f_,f_,f_,f_,f_,f_,f_,f_,f_,f_,f_,f_,f_,f_,f_,f_,f_,f_,f_,f_,f_,f_,f_,f_] rfl rfl (any_of HT_.out z4_) (fun _ _ _ h => h) (Or.inl ⟨by rfl, ?_⟩) ?_ ?_; rotate_left
                            ·intro w'; go_simp; with_reducible rfl
                            rotate_left
                            ·simp only [Act.put, List.setIfInBounds_toArray, List.set_cons_zero, List.set_cons_succ, i64_w, i32_w]; rfl
                            refine pure_ (i := 20) (N := some 250) (v := ?_) (a' := ?_) #[t_,t_,t_,t_,t_,t_,t_,t_,t_,t_,t_,t_,t_,t_,t_,t_,t_,t_,t_,f_,t_,f_,f_,f_,f_,f_,f_,f_,f_,f_,f_,f_,f_,f_,f_,f_,f_,f_,f_,f_,f_,f_,f_,f_,f_,f_,f_,f_,f_,f_,f_,f_,f_,f_,f_,f_,f_] rfl rfl (any_of HT_.out z4_) (fun _ _ _ h => h) (Or.inl ⟨by rfl, ?_⟩) ?_ ?_; rotate_left
                            ·intro w'; go_simp; with_reducible rfl
                            rotate_left
                            ·simp only [Act.put, List.setIfInBounds_toArray, List.set_cons_zero, List.set_cons_succ, i64_w, i32_w]; rfl
                            refine pure_ (i := 21) (N := some 251) (v := ?_) (a' := ?_) #[t_,t_,t_,t_,t_,t_,t_,t_,t_,t_,t_,t_,t_,t_,t_,t_,t_,t_,t_,f_,t_,t_,f_,f_,f_,f_,f_,f_,f_,f_,f_,f_,f_,f_,f_,f_,f_,f_,f_,f_,f_,f_,f_,f_,f_,f_,f_,f_,f_,f_,f_,f_,f_,f_,f_,f_,f_] rfl rfl (any_of HT_.out z4_) (fun _ _ _ h => h) (Or.inl ⟨by rfl, ?_⟩) ?_ ?_; rotate_left
                            ·intro w'; go_simp; with_reducible rfl
                            rotate_left
                            ·simp only [Act.put, List.setIfInBounds_toArray, List.set_cons_zero, List.set_cons_succ, i64_w, i32_w]; rfl
                            refine pure_ (i := 22) (N := some 252) (v := ?_) (a' := ?_) #[t_,t_,t_,t_,t_,t_,t_,t_,t_,t_,t_,t_,t_,t_,t_,t_,t_,t_,t_,f_,t_,t_,t_,f_,f_,f_,f_,f_,f_,f_,f_,f_,f_,f_,f_,f_,f_,f_,f_,f_,f_,f_,f_,f_,f_,f_,f_,f_,f_,f_,f_,f_,f_,f_,f_,f_,f_] rfl rfl (any_of HT_.out z4_) (fun _ _ _ h => h) (Or.inl ⟨by rfl, ?_⟩) ?_ ?_; rotate_left
                            ·intro w'; go_simp; with_reducible rfl
                            rotate_left
                            ·simp only [Act.put, List.setIfInBounds_toArray, List.set_cons_zero, List.set_cons_succ, i64_w, i32_w]; rfl
                            refine pure_ (i := 23) (N := some 253) (v := ?_) (a' := ?_) #[t_,t_,t_,t_,t_,t_,t_,t_,t_,t_,t_,t_,t_,t_,t_,t_,t_,t_,t_,f_,t_,t_,t_,t_,f_,f_,f_,f_,f_,f_,f_,f_,f_,f_,f_,f_,f_,f_,f_,f_,f_,f_,f_,f_,f_,f_,f_,f_,f_,f_,f_,f_,f_,f_,f_,f_,f_] rfl rfl (any_of HT_.out z4_) (fun _ _ _ h => h) (Or.inl ⟨by rfl, ?_⟩) ?_ ?_; rotate_left
                            ·intro w'; go_simp; with_reducible rfl
                            rotate_left
                            ·simp only [Act.put, List.setIfInBounds_toArray, List.set_cons_zero, List.set_cons_succ, i64_w, i32_w]; rfl
                            refine pure_ (i := 24) (N := some 254) (v := ?_) (a' := ?_) #[t_,t_,t_,t_,t_,t_,t_,t_,t_,t_,t_,t_,t_,t_,t_,t_,t_,t_,t_,f_,t_,t_,t_,t_,t_,f_,f_,f_,f_,f_,f_,f_,f_,f_,f_,f_,f_,f_,f_,f_,f_,f_,f_,f_,f_,f_,f_,f_,f_,f_,f_,f_,f_,f_,f_,f_,f_] rfl rfl (any_of HT_.out z4_) (fun _ _ _ h => h) (Or.inl ⟨by rfl, ?_⟩) ?_ ?_; rotate_left
                            ·intro w'; go_simp; with_reducible rfl
                            rotate_left
                            ·simp only [Act.put, List.setIfInBounds_toArray, List.set_cons_zero, List.set_cons_succ, i64_w, i32_w]; rfl
                            refine take_ (i := 19) (N := some 249) (v := ?_) (a' := ?_) #[t_,t_,t_,t_,t_,t_,t_,t_,t_,t_,t_,t_,t_,t_,t_,t_,t_,t_,t_,t_,t_,t_,t_,t_,t_,f_,f_,f_,f_,f_,f_,f_,f_,f_,f_,f_,f_,f_,f_,f_,f_,f_,f_,f_,f_,f_,f_,f_,f_,f_,f_,f_,f_,f_,f_,f_,f_] rfl rfl (take_ofW HT_.out HW_.out z4_) (fun _ _ _ h => h) (Or.inl ⟨by rfl, ?_⟩) hHeld ?_ ?_; rotate_left
                            ·rintro w' ⟨s0, s1, s2, s3, s4, s5, s6, s7, s8, s9, s10, s11, s12, s13, s14, s15, s16, s17, s18, s19, s20⟩; go_simp; with_reducible rfl
                            rotate_left
                            ·simp only [Act.put, List.setIfInBounds_toArray, List.set_cons_zero, List.set_cons_succ, i64_w, i32_w]; rfl
                            refine take_ (i := 25) (N := some 255) (v := ?_) (a' := ?_) #[t_,t_,t_,t_,t_,t_,t_,t_,t_,t_,t_,t_,t_,t_,t_,t_,t_,t_,t_,t_,t_,t_,t_,t_,t_,t_,f_,f_,f_,f_,f_,f_,f_,f_,f_,f_,f_,f_,f_,f_,f_,f_,f_,f_,f_,f_,f_,f_,f_,f_,f_,f_,f_,f_,f_,f_,f_] rfl rfl (take_ofW HT_.out HW_.out z4_) (fun _ _ _ h => h) (Or.inl ⟨by rfl, ?_⟩) hHeld ?_ ?_; rotate_left
                            ·rintro w' ⟨s0, s1, s2, s3, s4, s5, s6, s7, s8, s9, s10, s11, s12, s13, s14, s15, s16, s17, s18, s19, s20⟩; go_simp; with_reducible rfl
                            rotate_left
                            ·simp only [Act.put, List.setIfInBounds_toArray, List.set_cons_zero, List.set_cons_succ, i64_w, i32_w]; rfl
                            refine pure_ (i := 26) (N := some 256) (v := ?_) (a' := ?_) #[t_,t_,t_,t_,t_,t_,t_,t_,t_,t_,t_,t_,t_,t_,t_,t_,t_,t_,t_,t_,t_,t_,t_,t_,t_,t_,t_,f_,f_,f_,f_,f_,f_,f_,f_,f_,f_,f_,f_,f_,f_,f_,f_,f_,f_,f_,f_,f_,f_,f_,f_,f_,f_,f_,f_,f_,f_] rfl rfl (any_of HT_.out z4_) (fun _ _ _ h => h) (Or.inl ⟨by rfl, ?_⟩) ?_ ?_; rotate_left
                            ·intro w'; go_simp; with_reducible rfl
                            rotate_left
                            ·simp only [Act.put, List.setIfInBounds_toArray, List.set_cons_zero, List.set_cons_succ, i64_w, i32_w]; rfl
                            refine pure_ (i := 27) (N := some 257) (v := ?_) (a' := ?_) #[t_,t_,t_,t_,t_,t_,t_,t_,t_,t_,t_,t_,t_,t_,t_,t_,t_,t_,t_,t_,t_,t_,t_,t_,t_,t_,t_,t_,f_,f_,f_,f_,f_,f_,f_,f_,f_,f_,f_,f_,f_,f_,f_,f_,f_,f_,f_,f_,f_,f_,f_,f_,f_,f_,f_,f_,f_] rfl rfl (any_of HT_.out z4_) (fun _ _ _ h => h) (Or.inl ⟨by rfl, ?_⟩) ?_ ?_; rotate_left
                            ·intro w'; go_simp; with_reducible rfl
                            rotate_left
                            ·simp only [Act.put, List.setIfInBounds_toArray, List.set_cons_zero, List.set_cons_succ, i64_w, i32_w]; rfl
                            refine pure_ (i := 28) (N := some 258) (v := ?_) (a' := ?_) #[t_,t_,t_,t_,t_,t_,t_,t_,t_,t_,t_,t_,t_,t_,t_,t_,t_,t_,t_,t_,t_,t_,t_,t_,t_,t_,t_,t_,t_,f_,f_,f_,f_,f_,f_,f_,f_,f_,f_,f_,f_,f_,f_,f_,f_,f_,f_,f_,f_,f_,f_,f_,f_,f_,f_,f_,f_] rfl rfl (any_of HT_.out z4_) (fun _ _ _ h => h) (Or.inl ⟨by rfl, ?_⟩) ?_ ?_; rotate_left
                            ·intro w'; go_simp; with_reducible rfl
                            rotate_left
                            ·simp only [Act.put, List.setIfInBounds_toArray, List.set_cons_zero, List.set_cons_succ, i64_w, i32_w]; rfl
                            refine pure_ (i := 29) (N := some 259) (v := ?_) (a' := ?_) #[t_,t_,t_,t_,t_,t_,t_,t_,t_,t_,t_,t_,t_,t_,t_,t_,t_,t_,t_,t_,t_,t_,t_,t_,t_,t_,t_,t_,t_,t_,f_,f_,f_,f_,f_,f_,f_,f_,f_,f_,f_,f_,f_,f_,f_,f_,f_,f_,f_,f_,f_,f_,f_,f_,f_,f_,f_] rfl rfl (any_of HT_.out z4_) (fun _ _ _ h => h) (Or.inl ⟨by rfl, ?_⟩) ?_ ?_; rotate_left
                            ·intro w'; go_simp; with_reducible rfl
                            rotate_left
                            ·simp only [Act.put, List.setIfInBounds_toArray, List.set_cons_zero, List.set_cons_succ, i64_w, i32_w]; rfl
                            refine pure_ (i := 30) (N := some 260) (v := ?_) (a' := ?_) #[t_,t_,t_,t_,t_,t_,t_,t_,t_,t_,t_,t_,t_,t_,t_,t_,t_,t_,t_,t_,t_,t_,t_,t_,t_,t_,t_,t_,t_,t_,t_,f_,f_,f_,f_,f_,f_,f_,f_,f_,f_,f_,f_,f_,f_,f_,f_,f_,f_,f_,f_,f_,f_,f_,f_,f_,f_] rfl rfl (any_of HT_.out z4_) (fun _ _ _ h => h) (Or.inl ⟨by rfl, ?_⟩) ?_ ?_; rotate_left
                            ·intro w'; go_simp; with_reducible rfl
                            rotate_left
                            ·simp only [Act.put, List.setIfInBounds_toArray, List.set_cons_zero, List.set_cons_succ, i64_w, i32_w]; rfl
                            refine pure_ (i := 31) (N := some 261) (v := ?_) (a' := ?_) #[t_,t_,t_,t_,t_,t_,t_,t_,t_,t_,t_,t_,t_,t_,t_,t_,t_,t_,t_,t_,t_,t_,t_,t_,t_,t_,t_,t_,t_,t_,t_,t_,f_,f_,f_,f_,f_,f_,f_,f_,f_,f_,f_,f_,f_,f_,f_,f_,f_,f_,f_,f_,f_,f_,f_,f_,f_] rfl rfl (any_of HT_.out z4_) (fun _ _ _ h => h) (Or.inl ⟨by rfl, ?_⟩) ?_ ?_; rotate_left
                            ·intro w'; go_simp; with_reducible rfl
                            rotate_left
                            ·simp only [Act.put, List.setIfInBounds_toArray, List.set_cons_zero, List.set_cons_succ, i64_w, i32_w]; rfl
                            refine pure_ (i := 33) (N := some 263) (v := ?_) (a' := ?_) #[t_,t_,t_,t_,t_,t_,t_,t_,t_,t_,t_,t_,t_,t_,t_,t_,t_,t_,t_,t_,t_,t_,t_,t_,t_,t_,t_,t_,t_,t_,t_,t_,f_,t_,f_,f_,f_,f_,f_,f_,f_,f_,f_,f_,f_,f_,f_,f_,f_,f_,f_,f_,f_,f_,f_,f_,f_] rfl rfl (any_of HT_.out z4_) (fun _ _ _ h => h) (Or.inl ⟨by rfl, ?_⟩) ?_ ?_; rotate_left
                            ·intro w'; go_simp; with_reducible rfl
                            rotate_left
                            ·simp only [Act.put, List.setIfInBounds_toArray, List.set_cons_zero, List.set_cons_succ, i64_w, i32_w]; rfl
                            refine pure_ (i := 34) (N := some 264) (v := ?_) (a' := ?_) #[t_,t_,t_,t_,t_,t_,t_,t_,t_,t_,t_,t_,t_,t_,t_,t_,t_,t_,t_,t_,t_,t_,t_,t_,t_,t_,t_,t_,t_,t_,t_,t_,f_,t_,t_,f_,f_,f_,f_,f_,f_,f_,f_,f_,f_,f_,f_,f_,f_,f_,f_,f_,f_,f_,f_,f_,f_] rfl rfl (any_of HT_.out z4_) (fun _ _ _ h => h) (Or.inl ⟨by rfl, ?_⟩) ?_ ?_; rotate_left
                            ·intro w'; go_simp; with_reducible rfl
                            rotate_left
                            ·simp only [Act.put, List.setIfInBounds_toArray, List.set_cons_zero, List.set_cons_succ, i64_w, i32_w]; rfl
                            refine pure_ (i := 35) (N := some 265) (v := ?_) (a' := ?_) #[t_,t_,t_,t_,t_,t_,t_,t_,t_,t_,t_,t_,t_,t_,t_,t_,t_,t_,t_,t_,t_,t_,t_,t_,t_,t_,t_,t_,t_,t_,t_,t_,f_,t_,t_,t_,f_,f_,f_,f_,f_,f_,f_,f_,f_,f_,f_,f_,f_,f_,f_,f_,f_,f_,f_,f_,f_] rfl rfl (any_of HT_.out z4_) (fun _ _ _ h => h) (Or.inl ⟨by rfl, ?_⟩) ?_ ?_; rotate_left
                            ·intro w'; go_simp; with_reducible rfl
                            rotate_left
                            ·simp only [Act.put, List.setIfInBounds_toArray, List.set_cons_zero, List.set_cons_succ, i64_w, i32_w]; rfl
                            refine pure_ (i := 36) (N := some 266) (v := ?_) (a' := ?_) #[t_,t_,t_,t_,t_,t_,t_,t_,t_,t_,t_,t_,t_,t_,t_,t_,t_,t_,t_,t_,t_,t_,t_,t_,t_,t_,t_,t_,t_,t_,t_,t_,f_,t_,t_,t_,t_,f_,f_,f_,f_,f_,f_,f_,f_,f_,f_,f_,f_,f_,f_,f_,f_,f_,f_,f_,f_] rfl rfl (any_of HT_.out z4_) (fun _ _ _ h => h) (Or.inl ⟨by rfl, ?_⟩) ?_ ?_; rotate_left
                            ·intro w'; go_simp; with_reducible rfl
                            rotate_left
                            ·simp only [Act.put, List.setIfInBounds_toArray, List.set_cons_zero, List.set_cons_succ, i64_w, i32_w]; rfl
                            refine pure_ (i := 37) (N := some 267) (v := ?_) (a' := ?_) #[t_,t_,t_,t_,t_,t_,t_,t_,t_,t_,t_,t_,t_,t_,t_,t_,t_,t_,t_,t_,t_,t_,t_,t_,t_,t_,t_,t_,t_,t_,t_,t_,f_,t_,t_,t_,t_,t_,f_,f_,f_,f_,f_,f_,f_,f_,f_,f_,f_,f_,f_,f_,f_,f_,f_,f_,f_] rfl rfl (any_of HT_.out z4_) (fun _ _ _ h => h) (Or.inl ⟨by rfl, ?_⟩) ?_ ?_; rotate_left
                            ·intro w'; go_simp; with_reducible rfl
                            rotate_left
                            ·simp only [Act.put, List.setIfInBounds_toArray, List.set_cons_zero, List.set_cons_succ, i64_w, i32_w]; rfl
                            refine take_ (i := 32) (N := some 262) (v := ?_) (a' := ?_) #[t_,t_,t_,t_,t_,t_,t_,t_,t_,t_,t_,t_,t_,t_,t_,t_,t_,t_,t_,t_,t_,t_,t_,t_,t_,t_,t_,t_,t_,t_,t_,t_,t_,t_,t_,t_,t_,t_,f_,f_,f_,f_,f_,f_,f_,f_,f_,f_,f_,f_,f_,f_,f_,f_,f_,f_,f_] rfl rfl (take_ofW HT_.out HW_.out z4_) (fun _ _ _ h => h) (Or.inl ⟨by rfl, ?_⟩) hHeld ?_ ?_; rotate_left
                            ·rintro w' ⟨s0, s1, s2, s3, s4, s5, s6, s7, s8, s9, s10, s11, s12, s13, s14, s15, s16, s17, s18, s19, s20⟩; go_simp; with_reducible rfl
                            rotate_left
                            ·simp only [Act.put, List.setIfInBounds_toArray, List.set_cons_zero, List.set_cons_succ, i64_w, i32_w]; rfl
                            refine take_ (i := 38) (N := some 268) (v := ?_) (a' := ?_) #[t_,t_,t_,t_,t_,t_,t_,t_,t_,t_,t_,t_,t_,t_,t_,t_,t_,t_,t_,t_,t_,t_,t_,t_,t_,t_,t_,t_,t_,t_,t_,t_,t_,t_,t_,t_,t_,t_,t_,f_,f_,f_,f_,f_,f_,f_,f_,f_,f_,f_,f_,f_,f_,f_,f_,f_,f_] rfl rfl (take_ofW HT_.out HW_.out z4_) (fun _ _ _ h => h) (Or.inl ⟨by rfl, ?_⟩) hHeld ?_ ?_; rotate_left
                            ·rintro w' ⟨s0, s1, s2, s3, s4, s5, s6, s7, s8, s9, s10, s11, s12, s13, s14, s15, s16, s17, s18, s19, s20⟩; go_simp; with_reducible rfl
                            rotate_left
                            ·simp only [Act.put, List.setIfInBounds_toArray, List.set_cons_zero, List.set_cons_succ, i64_w, i32_w]; rfl
                            refine pure_ (i := 39) (N := some 269) (v := ?_) (a' := ?_) #[t_,t_,t_,t_,t_,t_,t_,t_,t_,t_,t_,t_,t_,t_,t_,t_,t_,t_,t_,t_,t_,t_,t_,t_,t_,t_,t_,t_,t_,t_,t_,t_,t_,t_,t_,t_,t_,t_,t_,t_,f_,f_,f_,f_,f_,f_,f_,f_,f_,f_,f_,f_,f_,f_,f_,f_,f_] rfl rfl (any_of HT_.out z4_) (fun _ _ _ h => h) (Or.inl ⟨by rfl, ?_⟩) ?_ ?_; rotate_left
                            ·intro w'; go_simp; with_reducible rfl
                            rotate_left
                            ·simp only [Act.put, List.setIfInBounds_toArray, List.set_cons_zero, List.set_cons_succ, i64_w, i32_w]; rfl
                            refine pure_ (i := 40) (N := some 270) (v := ?_) (a' := ?_) #[t_,t_,t_,t_,t_,t_,t_,t_,t_,t_,t_,t_,t_,t_,t_,t_,t_,t_,t_,t_,t_,t_,t_,t_,t_,t_,t_,t_,t_,t_,t_,t_,t_,t_,t_,t_,t_,t_,t_,t_,t_,f_,f_,f_,f_,f_,f_,f_,f_,f_,f_,f_,f_,f_,f_,f_,f_] rfl rfl (any_of HT_.out z4_) (fun _ _ _ h => h) (Or.inl ⟨by rfl, ?_⟩) ?_ ?_; rotate_left
                            ·intro w'; go_simp; with_reducible rfl
                            rotate_left
                            ·simp only [Act.put, List.setIfInBounds_toArray, List.set_cons_zero, List.set_cons_succ, i64_w, i32_w]; rfl
                            refine pure_ (i := 41) (N := some 271) (v := ?_) (a' := ?_) #[t_,t_,t_,t_,t_,t_,t_,t_,t_,t_,t_,t_,t_,t_,t_,t_,t_,t_,t_,t_,t_,t_,t_,t_,t_,t_,t_,t_,t_,t_,t_,t_,t_,t_,t_,t_,t_,t_,t_,t_,t_,t_,f_,f_,f_,f_,f_,f_,f_,f_,f_,f_,f_,f_,f_,f_,f_] rfl rfl (any_of HT_.out z4_) (fun _ _ _ h => h) (Or.inl ⟨by rfl, ?_⟩) ?_ ?_; rotate_left
                            ·intro w'; go_simp; with_reducible rfl
                            rotate_left
                            ·simp only [Act.put, List.setIfInBounds_toArray, List.set_cons_zero, List.set_cons_succ, i64_w, i32_w]; rfl
                            refine pure_ (i := 42) (N := some 272) (v := ?_) (a' := ?_) #[t_,t_,t_,t_,t_,t_,t_,t_,t_,t_,t_,t_,t_,t_,t_,t_,t_,t_,t_,t_,t_,t_,t_,t_,t_,t_,t_,t_,t_,t_,t_,t_,t_,t_,t_,t_,t_,t_,t_,t_,t_,t_,t_,f_,f_,f_,f_,f_,f_,f_,f_,f_,f_,f_,f_,f_,f_] rfl rfl (any_of HT_.out z4_) (fun _ _ _ h => h) (Or.inl ⟨by rfl, ?_⟩) ?_ ?_; rotate_left
                            ·intro w'; go_simp; with_reducible rfl
                            rotate_left
                            ·simp only [Act.put, List.setIfInBounds_toArray, List.set_cons_zero, List.set_cons_succ, i64_w, i32_w]; rfl
                            refine pure_ (i := 43) (N := some 273) (v := ?_) (a' := ?_) #[t_,t_,t_,t_,t_,t_,t_,t_,t_,t_,t_,t_,t_,t_,t_,t_,t_,t_,t_,t_,t_,t_,t_,t_,t_,t_,t_,t_,t_,t_,t_,t_,t_,t_,t_,t_,t_,t_,t_,t_,t_,t_,t_,t_,f_,f_,f_,f_,f_,f_,f_,f_,f_,f_,f_,f_,f_] rfl rfl (any_of HT_.out z4_) (fun _ _ _ h => h) (Or.inl ⟨by rfl, ?_⟩) ?_ ?_; rotate_left
                            ·intro w'; go_simp; with_reducible rfl
                            rotate_left
                            ·simp only [Act.put, List.setIfInBounds_toArray, List.set_cons_zero, List.set_cons_succ, i64_w, i32_w]; rfl
                            refine pure_ (i := 44) (N := some 274) (v := ?_) (a' := ?_) #[t_,t_,t_,t_,t_,t_,t_,t_,t_,t_,t_,t_,t_,t_,t_,t_,t_,t_,t_,t_,t_,t_,t_,t_,t_,t_,t_,t_,t_,t_,t_,t_,t_,t_,t_,t_,t_,t_,t_,t_,t_,t_,t_,t_,t_,f_,f_,f_,f_,f_,f_,f_,f_,f_,f_,f_,f_] rfl rfl (any_of HT_.out z4_) (fun _ _ _ h => h) (Or.inl ⟨by rfl, ?_⟩) ?_ ?_; rotate_left
                            ·intro w'; go_simp; with_reducible rfl
                            rotate_left
                            ·simp only [Act.put, List.setIfInBounds_toArray, List.set_cons_zero, List.set_cons_succ, i64_w, i32_w]; rfl
                            refine pure_ (i := 46) (N := some 276) (v := ?_) (a' := ?_) #[t_,t_,t_,t_,t_,t_,t_,t_,t_,t_,t_,t_,t_,t_,t_,t_,t_,t_,t_,t_,t_,t_,t_,t_,t_,t_,t_,t_,t_,t_,t_,t_,t_,t_,t_,t_,t_,t_,t_,t_,t_,t_,t_,t_,t_,f_,t_,f_,f_,f_,f_,f_,f_,f_,f_,f_,f_] rfl rfl (any_of HT_.out z4_) (fun _ _ _ h => h) (Or.inl ⟨by rfl, ?_⟩) ?_ ?_; rotate_left
                            ·intro w'; go_simp; with_reducible rfl
                            rotate_left
                            ·simp only [Act.put, List.setIfInBounds_toArray, List.set_cons_zero, List.set_cons_succ, i64_w, i32_w]; rfl
                            refine pure_ (i := 47) (N := some 277) (v := ?_) (a' := ?_) #[t_,t_,t_,t_,t_,t_,t_,t_,t_,t_,t_,t_,t_,t_,t_,t_,t_,t_,t_,t_,t_,t_,t_,t_,t_,t_,t_,t_,t_,t_,t_,t_,t_,t_,t_,t_,t_,t_,t_,t_,t_,t_,t_,t_,t_,f_,t_,t_,f_,f_,f_,f_,f_,f_,f_,f_,f_] rfl rfl (any_of HT_.out z4_) (fun _ _ _ h => h) (Or.inl ⟨by rfl, ?_⟩) ?_ ?_; rotate_left
                            ·intro w'; go_simp; with_reducible rfl
                            rotate_left
                            ·simp only [Act.put, List.setIfInBounds_toArray, List.set_cons_zero, List.set_cons_succ, i64_w, i32_w]; rfl
                            refine pure_ (i := 48) (N := some 278) (v := ?_) (a' := ?_) #[t_,t_,t_,t_,t_,t_,t_,t_,t_,t_,t_,t_,t_,t_,t_,t_,t_,t_,t_,t_,t_,t_,t_,t_,t_,t_,t_,t_,t_,t_,t_,t_,t_,t_,t_,t_,t_,t_,t_,t_,t_,t_,t_,t_,t_,f_,t_,t_,t_,f_,f_,f_,f_,f_,f_,f_,f_] rfl rfl (any_of HT_.out z4_) (fun _ _ _ h => h) (Or.inl ⟨by rfl, ?_⟩) ?_ ?_; rotate_left
                            ·intro w'; go_simp; with_reducible rfl
                            rotate_left
                            ·simp only [Act.put, List.setIfInBounds_toArray, List.set_cons_zero, List.set_cons_succ, i64_w, i32_w]; rfl
                            refine pure_ (i := 49) (N := some 279) (v := ?_) (a' := ?_) #[t_,t_,t_,t_,t_,t_,t_,t_,t_,t_,t_,t_,t_,t_,t_,t_,t_,t_,t_,t_,t_,t_,t_,t_,t_,t_,t_,t_,t_,t_,t_,t_,t_,t_,t_,t_,t_,t_,t_,t_,t_,t_,t_,t_,t_,f_,t_,t_,t_,t_,f_,f_,f_,f_,f_,f_,f_] rfl rfl (any_of HT_.out z4_) (fun _ _ _ h => h) (Or.inl ⟨by rfl, ?_⟩) ?_ ?_; rotate_left
                            ·intro w'; go_simp; with_reducible rfl
                            rotate_left
                            ·simp only [Act.put, List.setIfInBounds_toArray, List.set_cons_zero, List.set_cons_succ, i64_w, i32_w]; rfl
                            refine pure_ (i := 50) (N := some 280) (v := ?_) (a' := ?_) #[t_,t_,t_,t_,t_,t_,t_,t_,t_,t_,t_,t_,t_,t_,t_,t_,t_,t_,t_,t_,t_,t_,t_,t_,t_,t_,t_,t_,t_,t_,t_,t_,t_,t_,t_,t_,t_,t_,t_,t_,t_,t_,t_,t_,t_,f_,t_,t_,t_,t_,t_,f_,f_,f_,f_,f_,f_] rfl rfl (any_of HT_.out z4_) (fun _ _ _ h => h) (Or.inl ⟨by rfl, ?_⟩) ?_ ?_; rotate_left
                            ·intro w'; go_simp; with_reducible rfl
                            rotate_left
                            ·simp only [Act.put, List.setIfInBounds_toArray, List.set_cons_zero, List.set_cons_succ, i64_w, i32_w]; rfl
                            refine take_ (i := 45) (N := some 275) (v := ?_) (a' := ?_) #[t_,t_,t_,t_,t_,t_,t_,t_,t_,t_,t_,t_,t_,t_,t_,t_,t_,t_,t_,t_,t_,t_,t_,t_,t_,t_,t_,t_,t_,t_,t_,t_,t_,t_,t_,t_,t_,t_,t_,t_,t_,t_,t_,t_,t_,t_,t_,t_,t_,t_,t_,f_,f_,f_,f_,f_,f_] rfl rfl (take_ofW HT_.out HW_.out z4_) (fun _ _ _ h => h) (Or.inl ⟨by rfl, ?_⟩) hHeld ?_ ?_; rotate_left
                            ·rintro w' ⟨s0, s1, s2, s3, s4, s5, s6, s7, s8, s9, s10, s11, s12, s13, s14, s15, s16, s17, s18, s19, s20⟩; go_simp; with_reducible rfl
                            rotate_left
                            ·simp only [Act.put, List.setIfInBounds_toArray, List.set_cons_zero, List.set_cons_succ, i64_w, i32_w]; rfl
                            refine take_ (i := 51) (N := some 281) (v := ?_) (a' := ?_) #[t_,t_,t_,t_,t_,t_,t_,t_,t_,t_,t_,t_,t_,t_,t_,t_,t_,t_,t_,t_,t_,t_,t_,t_,t_,t_,t_,t_,t_,t_,t_,t_,t_,t_,t_,t_,t_,t_,t_,t_,t_,t_,t_,t_,t_,t_,t_,t_,t_,t_,t_,t_,f_,f_,f_,f_,f_] rfl rfl (take_ofW HT_.out HW_.out z4_) (fun _ _ _ h => h) (Or.inl ⟨by rfl, ?_⟩) hHeld ?_ ?_; rotate_left
                            ·rintro w' ⟨s0, s1, s2, s3, s4, s5, s6, s7, s8, s9, s10, s11, s12, s13, s14, s15, s16, s17, s18, s19, s20⟩; go_simp; with_reducible rfl
                            rotate_left
                            ·simp only [Act.put, List.setIfInBounds_toArray, List.set_cons_zero, List.set_cons_succ, i64_w, i32_w]; rfl
                            refine pure_ (i := 52) (N := some 282) (v := ?_) (a' := ?_) #[t_,t_,t_,t_,t_,t_,t_,t_,t_,t_,t_,t_,t_,t_,t_,t_,t_,t_,t_,t_,t_,t_,t_,t_,t_,t_,t_,t_,t_,t_,t_,t_,t_,t_,t_,t_,t_,t_,t_,t_,t_,t_,t_,t_,t_,t_,t_,t_,t_,t_,t_,t_,t_,f_,f_,f_,f_] rfl rfl (any_of HT_.out z4_) (fun _ _ _ h => h) (Or.inl ⟨by rfl, ?_⟩) ?_ ?_; rotate_left
                            ·intro w'; go_simp; with_reducible rfl
                            rotate_left
                            ·simp only [Act.put, List.setIfInBounds_toArray, List.set_cons_zero, List.set_cons_succ, i64_w, i32_w]; rfl
                            refine pure_ (i := 53) (N := some 283) (v := ?_) (a' := ?_) #[t_,t_,t_,t_,t_,t_,t_,t_,t_,t_,t_,t_,t_,t_,t_,t_,t_,t_,t_,t_,t_,t_,t_,t_,t_,t_,t_,t_,t_,t_,t_,t_,t_,t_,t_,t_,t_,t_,t_,t_,t_,t_,t_,t_,t_,t_,t_,t_,t_,t_,t_,t_,t_,t_,f_,f_,f_] rfl rfl (any_of HT_.out z4_) (fun _ _ _ h => h) (Or.inl ⟨by rfl, ?_⟩) ?_ ?_; rotate_left
                            ·intro w'; go_simp; with_reducible rfl
                            rotate_left
                            ·simp only [Act.put, List.setIfInBounds_toArray, List.set_cons_zero, List.set_cons_succ, i64_w, i32_w]; rfl
                            refine pure_ (i := 54) (N := some 284) (v := ?_) (a' := ?_) #[t_,t_,t_,t_,t_,t_,t_,t_,t_,t_,t_,t_,t_,t_,t_,t_,t_,t_,t_,t_,t_,t_,t_,t_,t_,t_,t_,t_,t_,t_,t_,t_,t_,t_,t_,t_,t_,t_,t_,t_,t_,t_,t_,t_,t_,t_,t_,t_,t_,t_,t_,t_,t_,t_,t_,f_,f_] rfl rfl (any_of HT_.out z4_) (fun _ _ _ h => h) (Or.inl ⟨by rfl, ?_⟩) ?_ ?_; rotate_left
                            ·intro w'; go_simp; with_reducible rfl
                            rotate_left
                            ·simp only [Act.put, List.setIfInBounds_toArray, List.set_cons_zero, List.set_cons_succ, i64_w, i32_w]; rfl
                            refine pure_ (i := 55) (N := some 285) (v := ?_) (a' := ?_) #[t_,t_,t_,t_,t_,t_,t_,t_,t_,t_,t_,t_,t_,t_,t_,t_,t_,t_,t_,t_,t_,t_,t_,t_,t_,t_,t_,t_,t_,t_,t_,t_,t_,t_,t_,t_,t_,t_,t_,t_,t_,t_,t_,t_,t_,t_,t_,t_,t_,t_,t_,t_,t_,t_,t_,t_,f_] rfl rfl (any_of HT_.out z4_) (fun _ _ _ h => h) (Or.inl ⟨by rfl, ?_⟩) ?_ ?_; rotate_left
                            ·intro w'; go_simp; with_reducible rfl
                            rotate_left
                            ·simp only [Act.put, List.setIfInBounds_toArray, List.set_cons_zero, List.set_cons_succ, i64_w, i32_w]; rfl
                            refine pure_ (i := 56) (N := some 286) (v := ?_) (a' := ?_) #[t_,t_,t_,t_,t_,t_,t_,t_,t_,t_,t_,t_,t_,t_,t_,t_,t_,t_,t_,t_,t_,t_,t_,t_,t_,t_,t_,t_,t_,t_,t_,t_,t_,t_,t_,t_,t_,t_,t_,t_,t_,t_,t_,t_,t_,t_,t_,t_,t_,t_,t_,t_,t_,t_,t_,t_,t_] rfl rfl (any_of HT_.out z4_) (fun _ _ _ h => h) (Or.inl ⟨by rfl, ?_⟩) ?_ ?_; rotate_left
                            ·intro w'; go_simp; with_reducible rfl
                            rotate_left
                            ·simp only [Act.put, List.setIfInBounds_toArray, List.set_cons_zero, List.set_cons_succ, i64_w, i32_w]; rfl
                            refine done_ (done_of HT_.out z4_) ?_; (try go_wp2); go_roundg k3
                            case measure => have := HJ12.out; have := HJ102.out; have := HK3.out; omega
                            case rel => exact ⟨(wrap64 (x27_3 + 1)), z5_, H', ⟨by have := HJ12.out; have := HJ102.out; have := HK3.out; omega⟩, ⟨z7_⟩, ⟨z19_⟩, ⟨z15_⟩, ⟨z0_⟩⟩
                        ·rw [if_neg c143] at H; have c143b0 : (((rd_T77 t368 x27_3).f0) == ((rd_T77 t368 (ji139)).f0)) = false := beq_eq_false_iff_ne.mpr c143; have c143b1 : (((rd_T77 t368 x27_3).f0) != ((rd_T77 t368 (ji139)).f0)) = true := bne_iff_ne.mpr c143
                         as_aux_lemma =>
                           have H' := Aside0.mk H; clear H; (try go_wp2); have n0_ := Aside0.mk (Kd.R_drew HO_4.out); have n1_ := Aside0.mk (Kd.R_drew HO_11.out); have n2_ := Aside0.mk (Kd.R_drew HO_15.out); have n3_ := Aside0.mk (below_drew1 HB.out); clear HO_4; clear HO_11; clear HO_15; clear HB; have HO_4 := n0_; have HO_11 := n1_; have HO_15 := n2_; have HB := n3_; clear n0_ n1_ n2_ n3_; have p406 : 0 ≤ (x27_3 : Int) := of_decide_eq_true z2_; have q406 : x27_3 < (t368.length : Int) := of_decide_eq_true z2_; obtain ⟨ad406, e406, hx406_0, hx406_1, hx406_2⟩ := at_T77 (Kd.R_reads' HO_11.out).2.2 x27_3 p406 q406; cases e406; replace p406 := eq_true p406; replace q406 := eq_true q406; have p407 : 0 ≤ (x27_3 : Int) := of_decide_eq_true z2_; have q407 : x27_3 < (t368.length : Int) := of_decide_eq_true z2_; obtain ⟨ad407, e407, hx407_0, hx407_1, hx407_2⟩ := at_T77 (Kd.R_reads' HO_11.out).2.2 x27_3 p407 q407; obtain rfl : ad406 = ad407 := (by injection e407); replace p407 := eq_true p407; replace q407 := eq_true q407; refine start_ (n := 18) (S := fun w' => w'.cell? (ad406.add ((x27_3).toNat * 3)) = some (.int .i64 ((rd_T77 t368 x27_3).f0)) ∧ w'.cell? ⟨(ad406.add ((x27_3).toNat * 3)).block, (ad406.add ((x27_3).toNat * 3)).off + 1, none⟩ = some (.int .i64 ((rd_T77 t368 x27_3).f1)) ∧ w'.cell? ⟨(ad406.add ((x27_3).toNat * 3)).block, (ad406.add ((x27_3).toNat * 3)).off + 2, none⟩ = some (.int .i64 ((rd_T77 t368 x27_3).f2)) ∧ w'.cell? (ad406.add ((x27_3).toNat * 3)) = some (.int .i64 ((rd_T77 t368 x27_3).f0)) ∧ w'.cell? ⟨(ad406.add ((x27_3).toNat * 3)).block, (ad406.add ((x27_3).toNat * 3)).off + 1, none⟩ = some (.int .i64 ((rd_T77 t368 x27_3).f1)) ∧ w'.cell? ⟨(ad406.add ((x27_3).toNat * 3)).block, (ad406.add ((x27_3).toNat * 3)).off + 2, none⟩ = some (.int .i64 ((rd_T77 t368 x27_3).f2))) (ds := []) #[f_,f_,f_,f_,f_,f_,f_,f_,f_,f_,f_,f_,f_,f_,f_,f_,f_,f_] z4_ rfl rfl ⟨hx406_0, hx406_1, hx406_2, hx407_0, hx407_1, hx407_2⟩ (fun hHeld => ?_); refine with_tabW laws_FnNets.tab22 laws_FnNets.bits22 (fun HT_ HW_ => ?_); generalize wr.drew = w148 at HO_4 HO_11 HO_15 HB hx406_0 hx406_1 hx406_2 hx407_0 hx407_1 hx407_2 hHeld ⊢; refine pure_ (i := 0) (N := some 215) (v := ?_) (a' := ?_) #[t_,f_,f_,f_,f_,f_,f_,f_,f_,f_,f_,f_,f_,f_,f_,f_,f_,f_] rfl rfl (any_of HT_.out z4_) (fun _ _ _ h => h) (Or.inl ⟨by rfl, ?_⟩) ?_ ?_; rotate_left
                           ·intro w'; go_simp; with_reducible rfl
                           rotate_left
                           ·simp only [Act.put, List.setIfInBounds_toArray, List.set_cons_zero, List.set_cons_succ, i64_w, i32_w]; rfl
                           refine pure_ (i := 1) (N := some 216) (v := ?_) (a' := ?_) #[t_,t_,f_,f_,f_,f_,f_,f_,f_,f_,f_,f_,f_,f_,f_,f_,f_,f_] rfl rfl (any_of HT_.out z4_) (fun _ _ _ h => h) (Or.inl ⟨by rfl, ?_⟩) ?_ ?_; rotate_left
                           ·intro w'; go_simp; with_reducible rfl
                           rotate_left
                           ·simp only [Act.put, List.setIfInBounds_toArray, List.set_cons_zero, List.set_cons_succ, i64_w, i32_w]; rfl
                           refine pure_ (i := 2) (N := some 217) (v := ?_) (a' := ?_) #[t_,t_,t_,f_,f_,f_,f_,f_,f_,f_,f_,f_,f_,f_,f_,f_,f_,f_] rfl rfl (any_of HT_.out z4_) (fun _ _ _ h => h) (Or.inl ⟨by rfl, ?_⟩) ?_ ?_; rotate_left
                           ·intro w'; go_simp; with_reducible rfl
                           rotate_left
                           ·simp only [Act.put, List.setIfInBounds_toArray, List.set_cons_zero, List.set_cons_succ, i64_w, i32_w]; rfl
                           refine pure_ (i := 3) (N := some 218) (v := ?_) (a' := ?_) #[t_,t_,t_,t_,f_,f_,f_,f_,f_,f_,f_,f_,f_,f_,f_,f_,f_,f_] rfl rfl (any_of HT_.out z4_) (fun _ _ _ h => h) (Or.inl ⟨by rfl, ?_⟩) ?_ ?_; rotate_left
                           ·intro w'; go_simp; with_reducible rfl
                           rotate_left
                           ·simp only [Act.put, List.setIfInBounds_toArray, List.set_cons_zero, List.set_cons_succ, i64_w, i32_w]; rfl
                           refine pure_ (i := 4) (N := some 219) (v := ?_) (a' := ?_) #[t_,t_,t_,t_,t_,f_,f_,f_,f_,f_,f_,f_,f_,f_,f_,f_,f_,f_] rfl rfl (any_of HT_.out z4_) (fun _ _ _ h => h) (Or.inl ⟨by rfl, ?_⟩) ?_ ?_; rotate_left
                           ·intro w'; go_simp; with_reducible rfl
                           rotate_left
                           ·simp only [Act.put, List.setIfInBounds_toArray, List.set_cons_zero, List.set_cons_succ, i64_w, i32_w]; rfl
                           refine pure_ (i := 5) (N := some 220) (v := ?_) (a' := ?_) #[t_,t_,t_,t_,t_,t_,f_,f_,f_,f_,f_,f_,f_,f_,f_,f_,f_,f_] rfl rfl (any_of HT_.out z4_) (fun _ _ _ h => h) (Or.inl ⟨by rfl, ?_⟩) ?_ ?_; rotate_left
                           ·intro w'; go_simp; with_reducible rfl
                           rotate_left
                           ·simp only [Act.put, List.setIfInBounds_toArray, List.set_cons_zero, List.set_cons_succ, i64_w, i32_w]; rfl
                           refine pure_ (i := 7) (N := some 222) (v := ?_) (a' := ?_) #[t_,t_,t_,t_,t_,t_,f_,t_,f_,f_,f_,f_,f_,f_,f_,f_,f_,f_] rfl rfl (any_of HT_.out z4_) (fun _ _ _ h => h) (Or.inl ⟨by rfl, ?_⟩) ?_ ?_; rotate_left
                           ·intro w'; go_simp; with_reducible rfl
                           rotate_left
                           ·simp only [Act.put, List.setIfInBounds_toArray, List.set_cons_zero, List.set_cons_succ, i64_w, i32_w]; rfl
                           refine pure_ (i := 8) (N := some 223) (v := ?_) (a' := ?_) #[t_,t_,t_,t_,t_,t_,f_,t_,t_,f_,f_,f_,f_,f_,f_,f_,f_,f_] rfl rfl (any_of HT_.out z4_) (fun _ _ _ h => h) (Or.inl ⟨by rfl, ?_⟩) ?_ ?_; rotate_left
                           ·intro w'; go_simp; with_reducible rfl
                           rotate_left
                           ·simp only [Act.put, List.setIfInBounds_toArray, List.set_cons_zero, List.set_cons_succ, i64_w, i32_w]; rfl
                           refine pure_ (i := 9) (N := some 224) (v := ?_) (a' := ?_) #[t_,t_,t_,t_,t_,t_,f_,t_,t_,t_,f_,f_,f_,f_,f_,f_,f_,f_] rfl rfl (any_of HT_.out z4_) (fun _ _ _ h => h) (Or.inl ⟨by rfl, ?_⟩) ?_ ?_; rotate_left
                           ·intro w'; go_simp; with_reducible rfl
                           rotate_left
                           ·simp only [Act.put, List.setIfInBounds_toArray, List.set_cons_zero, List.set_cons_succ, i64_w, i32_w]; rfl
                           refine pure_ (i := 10) (N := some 225) (v := ?_) (a' := ?_) #[t_,t_,t_,t_,t_,t_,f_,t_,t_,t_,t_,f_,f_,f_,f_,f_,f_,f_] rfl rfl (any_of HT_.out z4_) (fun _ _ _ h => h) (Or.inl ⟨by rfl, ?_⟩) ?_ ?_; rotate_left
                           ·intro w'; go_simp; with_reducible rfl
                           rotate_left
                           ·simp only [Act.put, List.setIfInBounds_toArray, List.set_cons_zero, List.set_cons_succ, i64_w, i32_w]; rfl
                           refine take_ (i := 6) (N := some 221) (v := ?_) (a' := ?_) #[t_,t_,t_,t_,t_,t_,t_,t_,t_,t_,t_,f_,f_,f_,f_,f_,f_,f_] rfl rfl (take_ofW HT_.out HW_.out z4_) (fun _ _ _ h => h) (Or.inl ⟨by rfl, ?_⟩) hHeld ?_ ?_; rotate_left
                           ·rintro w' ⟨s0, s1, s2, s3, s4, s5⟩; go_simp; with_reducible rfl
                           rotate_left
                           ·simp only [Act.put, List.setIfInBounds_toArray, List.set_cons_zero, List.set_cons_succ, i64_w, i32_w]; rfl
                           refine take_ (i := 11) (N := some 226) (v := ?_) (a' := ?_) #[t_,t_,t_,t_,t_,t_,t_,t_,t_,t_,t_,t_,f_,f_,f_,f_,f_,f_] rfl rfl (take_ofW HT_.out HW_.out z4_) (fun _ _ _ h => h) (Or.inl ⟨by rfl, ?_⟩) hHeld ?_ ?_; rotate_left
                           ·rintro w' ⟨s0, s1, s2, s3, s4, s5⟩; go_simp; with_reducible rfl
                           rotate_left
                           ·simp only [Act.put, List.setIfInBounds_toArray, List.set_cons_zero, List.set_cons_succ, i64_w, i32_w]; rfl
                           refine one_ (i := 12) (N := some 227) #[t_,t_,t_,t_,t_,t_,t_,t_,t_,t_,t_,t_,t_,f_,f_,f_,f_,f_] rfl rfl (one_of HT_.out z4_) (by decide) (fun K hK => ?_); refine goes_ Tryd.func52 z4_ rfl #[.int .i64 t352, .slice Ao15 t353.length co15, .int .i64 ((rd_T77 t368 x27_3).f0), .int .i64 ((rd_T77 t368 x27_3).f1)] (by rfl) rfl rfl z1_ ?_; (with_reducible refine (impl_OwedBetween.calls k3 t352 _ _ t353 ((rd_T77 t368 x27_3).f0) ((rd_T77 t368 x27_3).f1) t408 t409 _ ?side1 ?side2 A135.out).mono ?_); (case side1 => repeat (first | exact (Kd.R_reads' HO_4.out).2.2 | (with_reducible refine Kd.C_alloc ?_ _) | (with_reducible refine Kd.C_drewN ?_ _) | (with_reducible refine Kd.C_drew ?_))); (case side2 => exact (Kd.R_reads' HO_4.out).2.1); rintro e w149 ⟨rfl, hb⟩; have HS0_ := (hb.cell (World.block_lt_of_cell? _ _ (hHeld.1))).trans (hHeld.1); have HS1_ := (hb.cell (World.block_lt_of_cell? _ _ (hHeld.2.1))).trans (hHeld.2.1); have HS2_ := (hb.cell (World.block_lt_of_cell? _ _ (hHeld.2.2.1))).trans (hHeld.2.2.1); have HS3_ := (hb.cell (World.block_lt_of_cell? _ _ (hHeld.2.2.2.1))).trans (hHeld.2.2.2.1); have HS4_ := (hb.cell (World.block_lt_of_cell? _ _ (hHeld.2.2.2.2.1))).trans (hHeld.2.2.2.2.1); have HS5_ := (hb.cell (World.block_lt_of_cell? _ _ (hHeld.2.2.2.2.2))).trans (hHeld.2.2.2.2.2); refine ⟨_, rfl, ?_⟩; have n0_ := Aside0.mk (Kd.R_below z7_ hb); have n1_ := Aside0.mk (Kd.R_below z19_ hb); have n2_ := Aside0.mk (Kd.R_below z15_ hb); have n3_ := Aside0.mk (below_step z0_ hb); clear HO_4; clear HO_11; clear HO_15; clear HB; have HO_4 := n0_; have HO_11 := n1_; have HO_15 := n2_; have HB := n3_; clear n0_ n1_ n2_ n3_; (try clear hb); (try clear hb2); (try clear hk); (try clear hi); refine hK.out _ _ ⟨HS0_, HS1_, HS2_, HS3_, HS4_, HS5_⟩ (fun hHeld => ?_); clear hK K; refine norm_ (a' := ?_) ?_ ?_; rotate_left
                           ·show Act.put _ (some 227) _ = _; simp only [Act.put, List.setIfInBounds_toArray, List.set_cons_zero, List.set_cons_succ, i64_w, i32_w]; rfl
                           refine pure_ (i := 13) (N := some 214) (v := ?_) (a' := ?_) #[t_,t_,t_,t_,t_,t_,t_,t_,t_,t_,t_,t_,t_,t_,f_,f_,f_,f_] rfl rfl (any_of HT_.out z4_) (fun _ _ _ h => h) (Or.inl ⟨by rfl, ?_⟩) ?_ ?_; rotate_left
                           ·intro w'; go_simp; with_reducible rfl
                           rotate_left
                           ·simp only [Act.put, List.setIfInBounds_toArray, List.set_cons_zero, List.set_cons_succ, i64_w, i32_w]; rfl
                           refine pure_ (i := 14) (N := some 228) (v := ?_) (a' := ?_) #[t_,t_,t_,t_,t_,t_,t_,t_,t_,t_,t_,t_,t_,t_,t_,f_,f_,f_] rfl rfl (any_of HT_.out z4_) (fun _ _ _ h => h) (Or.inl ⟨by rfl, ?_⟩) ?_ ?_; rotate_left
                           ·intro w'; go_simp; with_reducible rfl
                           rotate_left
                           ·simp only [Act.put, List.setIfInBounds_toArray, List.set_cons_zero, List.set_cons_succ, i64_w, i32_w]; rfl
                           refine pure_ (i := 15) (N := some 229) (v := ?_) (a' := ?_) #[t_,t_,t_,t_,t_,t_,t_,t_,t_,t_,t_,t_,t_,t_,t_,t_,f_,f_] rfl rfl (any_of HT_.out z4_) (fun _ _ _ h => h) (Or.inl ⟨by rfl, ?_⟩) ?_ ?_; rotate_left
                           ·intro w'; go_simp; with_reducible rfl
                           rotate_left
                           ·simp only [Act.put, List.setIfInBounds_toArray, List.set_cons_zero, List.set_cons_succ, i64_w, i32_w]; rfl
                           refine pure_ (i := 16) (N := some 28) (v := ?_) (a' := ?_) #[t_,t_,t_,t_,t_,t_,t_,t_,t_,t_,t_,t_,t_,t_,t_,t_,t_,f_] rfl rfl (any_of HT_.out z4_) (fun _ _ _ h => h) (Or.inl ⟨by rfl, ?_⟩) ?_ ?_; rotate_left
                           ·intro w'; go_simp; with_reducible rfl
                           rotate_left
                           ·simp only [Act.put, List.setIfInBounds_toArray, List.set_cons_zero, List.set_cons_succ, i64_w, i32_w]; rfl
                           refine pure_ (i := 17) (N := some 29) (v := ?_) (a' := ?_) #[t_,t_,t_,t_,t_,t_,t_,t_,t_,t_,t_,t_,t_,t_,t_,t_,t_,t_] rfl rfl (any_of HT_.out z4_) (fun _ _ _ h => h) (Or.inl ⟨by rfl, ?_⟩) ?_ ?_; rotate_left
                           ·intro w'; go_simp; with_reducible rfl
                           rotate_left
                           ·simp only [Act.put, List.setIfInBounds_toArray, List.set_cons_zero, List.set_cons_succ, i64_w, i32_w]; rfl
                           refine done_ (done_of HT_.out z4_) ?_; (try go_wp2); have n0_ := Aside0.mk (Kd.R_drew HO_4.out); have n1_ := Aside0.mk (Kd.R_drew HO_11.out); have n2_ := Aside0.mk (Kd.R_drew HO_15.out); have n3_ := Aside0.mk (below_drew1 HB.out); clear HO_4; clear HO_11; clear HO_15; clear HB; have HO_4 := n0_; have HO_11 := n1_; have HO_15 := n2_; have HB := n3_; clear n0_ n1_ n2_ n3_; have p410 : 0 ≤ (x27_3 : Int) := of_decide_eq_true z2_; have q410 : x27_3 < (t368.length : Int) := of_decide_eq_true z2_; obtain ⟨ad410, e410, hx410_0, hx410_1, hx410_2⟩ := at_T77 (Kd.R_reads' HO_11.out).2.2 x27_3 p410 q410; obtain rfl : ad406 = ad410 := (by injection e410); replace p410 := eq_true p410; replace q410 := eq_true q410; have p411 : 0 ≤ (x27_3 : Int) := of_decide_eq_true z2_; have q411 : x27_3 < (t368.length : Int) := of_decide_eq_true z2_; obtain ⟨ad411, e411, hx411_0, hx411_1, hx411_2⟩ := at_T77 (Kd.R_reads' HO_11.out).2.2 x27_3 p411 q411; obtain rfl : ad406 = ad411 := (by injection e411); replace p411 := eq_true p411; replace q411 := eq_true q411; have p412 : 0 ≤ ((ji139) : Int) := of_decide_eq_true z2_; have q412 : (ji139) < (t368.length : Int) := of_decide_eq_true z2_; obtain ⟨ad412, e412, hx412_0, hx412_1, hx412_2⟩ := at_T77 (Kd.R_reads' HO_11.out).2.2 (ji139) p412 q412; obtain rfl : ad406 = ad412 := (by injection e412); replace p412 := eq_true p412; replace q412 := eq_true q412; have p413 : 0 ≤ (x27_3 : Int) := of_decide_eq_true z2_; have q413 : x27_3 < (t368.length : Int) := of_decide_eq_true z2_; obtain ⟨ad413, e413, hx413_0, hx413_1, hx413_2⟩ := at_T77 (Kd.R_reads' HO_11.out).2.2 x27_3 p413 q413; obtain rfl : ad406 = ad413 := (by injection e413); replace p413 := eq_true p413; replace q413 := eq_true q413; have p414 : 0 ≤ ((ji139) : Int) := of_decide_eq_true z2_; have q414 : (ji139) < (t368.length : Int) := of_decide_eq_true z2_; obtain ⟨ad414, e414, hx414_0, hx414_1, hx414_2⟩ := at_T77 (Kd.R_reads' HO_11.out).2.2 (ji139) p414 q414; obtain rfl : ad406 = ad414 := (by injection e414); replace p414 := eq_true p414; replace q414 := eq_true q414; refine start_ (n := 57) (S := fun w' => w'.cell? (ad406.add ((x27_3).toNat * 3)) = some (.int .i64 ((rd_T77 t368 x27_3).f0)) ∧ w'.cell? ⟨(ad406.add ((x27_3).toNat * 3)).block, (ad406.add ((x27_3).toNat * 3)).off + 1, none⟩ = some (.int .i64 ((rd_T77 t368 x27_3).f1)) ∧ w'.cell? ⟨(ad406.add ((x27_3).toNat * 3)).block, (ad406.add ((x27_3).toNat * 3)).off + 2, none⟩ = some (.int .i64 ((rd_T77 t368 x27_3).f2)) ∧ w'.cell? (ad406.add ((x27_3).toNat * 3)) = some (.int .i64 ((rd_T77 t368 x27_3).f0)) ∧ w'.cell? ⟨(ad406.add ((x27_3).toNat * 3)).block, (ad406.add ((x27_3).toNat * 3)).off + 1, none⟩ = some (.int .i64 ((rd_T77 t368 x27_3).f1)) ∧ w'.cell? ⟨(ad406.add ((x27_3).toNat * 3)).block, (ad406.add ((x27_3).toNat * 3)).off + 2, none⟩ = some (.int .i64 ((rd_T77 t368 x27_3).f2)) ∧ w'.cell? (ad406.add (((ji139)).toNat * 3)) = some (.int .i64 ((rd_T77 t368 (ji139)).f0)) ∧ w'.cell? ⟨(ad406.add (((ji139)).toNat * 3)).block, (ad406.add (((ji139)).toNat * 3)).off + 1, none⟩ = some (.int .i64 ((rd_T77 t368 (ji139)).f1)) ∧ w'.cell? ⟨(ad406.add (((ji139)).toNat * 3)).block, (ad406.add (((ji139)).toNat * 3)).off + 2, none⟩ = some (.int .i64 ((rd_T77 t368 (ji139)).f2)) ∧ w'.cell? (ad406.add ((x27_3).toNat * 3)) = some (.int .i64 ((rd_T77 t368 x27_3).f0)) ∧ w'.cell? ⟨(ad406.add ((x27_3).toNat * 3)).block, (ad406.add ((x27_3).toNat * 3)).off + 1, none⟩ = some (.int .i64 ((rd_T77 t368 x27_3).f1)) ∧ w'.cell? ⟨(ad406.add ((x27_3).toNat * 3)).block, (ad406.add ((x27_3).toNat * 3)).off + 2, none⟩ = some (.int .i64 ((rd_T77 t368 x27_3).f2)) ∧ w'.cell? (ad406.add (((ji139)).toNat * 3)) = some (.int .i64 ((rd_T77 t368 (ji139)).f0)) ∧ w'.cell? ⟨(ad406.add (((ji139)).toNat * 3)).block, (ad406.add (((ji139)).toNat * 3)).off + 1, none⟩ = some (.int .i64 ((rd_T77 t368 (ji139)).f1)) ∧ w'.cell? ⟨(ad406.add (((ji139)).toNat * 3)).block, (ad406.add (((ji139)).toNat * 3)).off + 2, none⟩ = some (.int .i64 ((rd_T77 t368 (ji139)).f2))) (ds := []) #[f_,f_,f_,f_,f_,f_,f_,f_,f_,f_,f_,f_,f_,f_,f_,f_,f_,f_,f_,f_,f_,f_,f_,f_,f_,f_,f_,f_,f_,f_,f_,f_,f_,f_,f_,f_,f_,f_,f_,f_,f_,f_,f_,f_,f_,f_,f_,f_,f_,f_,f_,f_,f_,f_,f_,f_,f_] z4_ rfl rfl ⟨hx410_0, hx410_1, hx410_2, hx411_0, hx411_1, hx411_2, hx412_0, hx412_1, hx412_2, hx413_0, hx413_1, hx413_2, hx414_0, hx414_1, hx414_2⟩ (fun hHeld => ?_); refine with_tabW laws_FnNets.tab23 laws_FnNets.bits23 (fun HT_ HW_ => ?_); generalize w149.drew = w150 at HO_4 HO_11 HO_15 HB hx410_0 hx410_1 hx410_2 hx411_0 hx411_1 hx411_2 hx412_0 hx412_1 hx412_2 hx413_0 hx413_1 hx413_2 hx414_0 hx414_1 hx414_2 hHeld ⊢; refine pure_ (i := 0) (N := some 230) (v := ?_) (a' := ?_) #[t_,f_,f_,f_,f_,f_,f_,f_,f_,f_,f_,f_,f_,f_,f_,f_,f_,f_,f_,f_,f_,f_,f_,f_,f_,f_,f_,f_,f_,f_,f_,f_,f_,f_,f_,f_,f_,f_,f_,f_,f_,f_,f_,f_,f_,f_,f_,f_,f_,f_,f_,f_,f_,f_,f_,f_,f_] rfl rfl (any_of HT_.out z4_) (fun _ _ _ h => h) (Or.inl ⟨by rfl, ?_⟩) ?_ ?_; rotate_left
                           ·intro w'; go_simp; with_reducible rfl
                           rotate_left
                           ·simp only [Act.put, List.setIfInBounds_toArray, List.set_cons_zero, List.set_cons_succ, i64_w, i32_w]; rfl
                           refine pure_ (i := 1) (N := some 231) (v := ?_) (a' := ?_) #[t_,t_,f_,f_,f_,f_,f_,f_,f_,f_,f_,f_,f_,f_,f_,f_,f_,f_,f_,f_,f_,f_,f_,f_,f_,f_,f_,f_,f_,f_,f_,f_,f_,f_,f_,f_,f_,f_,f_,f_,f_,f_,f_,f_,f_,f_,f_,f_,f_,f_,f_,f_,f_,f_,f_,f_,f_] rfl rfl (any_of HT_.out z4_) (fun _ _ _ h => h) (Or.inl ⟨by rfl, ?_⟩) ?_ ?_; rotate_left
                           ·intro w'; go_simp; with_reducible rfl
                           rotate_left
                           ·simp only [Act.put, List.setIfInBounds_toArray, List.set_cons_zero, List.set_cons_succ, i64_w, i32_w]; rfl
                           refine pure_ (i := 2) (N := some 232) (v := ?_) (a' := ?_) #[t_,t_,t_,f_,f_,f_,f_,f_,f_,f_,f_,f_,f_,f_,f_,f_,f_,f_,f_,f_,f_,f_,f_,f_,f_,f_,f_,f_,f_,f_,f_,f_,f_,f_,f_,f_,f_,f_,f_,f_,f_,f_,f_,f_,f_,f_,f_,f_,f_,f_,f_,f_,f_,f_,f_,f_,f_] rfl rfl (any_of HT_.out z4_) (fun _ _ _ h => h) (Or.inl ⟨by rfl, ?_⟩) ?_ ?_; rotate_left
                           ·intro w'; go_simp; with_reducible rfl
                           rotate_left
                           ·simp only [Act.put, List.setIfInBounds_toArray, List.set_cons_zero, List.set_cons_succ, i64_w, i32_w]; rfl
                           refine pure_ (i := 3) (N := some 233) (v := ?_) (a' := ?_) #[t_,t_,t_,t_,f_,f_,f_,f_,f_,f_,f_,f_,f_,f_,f_,f_,f_,f_,f_,f_,f_,f_,f_,f_,f_,f_,f_,f_,f_,f_,f_,f_,f_,f_,f_,f_,f_,f_,f_,f_,f_,f_,f_,f_,f_,f_,f_,f_,f_,f_,f_,f_,f_,f_,f_,f_,f_] rfl rfl (any_of HT_.out z4_) (fun _ _ _ h => h) (Or.inl ⟨by rfl, ?_⟩) ?_ ?_; rotate_left
                           ·intro w'; go_simp; with_reducible rfl
                           rotate_left
                           ·simp only [Act.put, List.setIfInBounds_toArray, List.set_cons_zero, List.set_cons_succ, i64_w, i32_w]; rfl
                           refine pure_ (i := 4) (N := some 234) (v := ?_) (a' := ?_) #[t_,t_,t_,t_,t_,f_,f_,f_,f_,f_,f_,f_,f_,f_,f_,f_,f_,f_,f_,f_,f_,f_,f_,f_,f_,f_,f_,f_,f_,f_,f_,f_,f_,f_,f_,f_,f_,f_,f_,f_,f_,f_,f_,f_,f_,f_,f_,f_,f_,f_,f_,f_,f_,f_,f_,f_,f_] rfl rfl (any_of HT_.out z4_) (fun _ _ _ h => h) (Or.inl ⟨by rfl, ?_⟩) ?_ ?_; rotate_left
                           ·intro w'; go_simp; with_reducible rfl
                           rotate_left
                           ·simp only [Act.put, List.setIfInBounds_toArray, List.set_cons_zero, List.set_cons_succ, i64_w, i32_w]; rfl
                           refine pure_ (i := 5) (N := some 235) (v := ?_) (a' := ?_) #[t_,t_,t_,t_,t_,t_,f_,f_,f_,f_,f_,f_,f_,f_,f_,f_,f_,f_,f_,f_,f_,f_,f_,f_,f_,f_,f_,f_,f_,f_,f_,f_,f_,f_,f_,f_,f_,f_,f_,f_,f_,f_,f_,f_,f_,f_,f_,f_,f_,f_,f_,f_,f_,f_,f_,f_,f_] rfl rfl (any_of HT_.out z4_) (fun _ _ _ h => h) (Or.inl ⟨by rfl, ?_⟩) ?_ ?_; rotate_left
                           ·intro w'; go_simp; with_reducible rfl
                           rotate_left
                           ·simp only [Act.put, List.setIfInBounds_toArray, List.set_cons_zero, List.set_cons_succ, i64_w, i32_w]; rfl
                           refine pure_ (i := 6) (N := some 236) (v := ?_) (a' := ?_) #[t_,t_,t_,t_,t_,t_,t_,f_,f_,f_,f_,f_,f_,f_,f_,f_,f_,f_,f_,f_,f_,f_,f_,f_,f_,f_,f_,f_,f_,f_,f_,f_,f_,f_,f_,f_,f_,f_,f_,f_,f_,f_,f_,f_,f_,f_,f_,f_,f_,f_,f_,f_,f_,f_,f_,f_,f_] rfl rfl (any_of HT_.out z4_) (fun _ _ _ h => h) (Or.inl ⟨by rfl, ?_⟩) ?_ ?_; rotate_left
                           ·intro w'; go_simp; with_reducible rfl
                           rotate_left
                           ·simp only [Act.put, List.setIfInBounds_toArray, List.set_cons_zero, List.set_cons_succ, i64_w, i32_w]; rfl
                           refine pure_ (i := 7) (N := some 237) (v := ?_) (a' := ?_) #[t_,t_,t_,t_,t_,t_,t_,t_,f_,f_,f_,f_,f_,f_,f_,f_,f_,f_,f_,f_,f_,f_,f_,f_,f_,f_,f_,f_,f_,f_,f_,f_,f_,f_,f_,f_,f_,f_,f_,f_,f_,f_,f_,f_,f_,f_,f_,f_,f_,f_,f_,f_,f_,f_,f_,f_,f_] rfl rfl (any_of HT_.out z4_) (fun _ _ _ h => h) (Or.inl ⟨by rfl, ?_⟩) ?_ ?_; rotate_left
                           ·intro w'; go_simp; with_reducible rfl
                           rotate_left
                           ·simp only [Act.put, List.setIfInBounds_toArray, List.set_cons_zero, List.set_cons_succ, i64_w, i32_w]; rfl
                           refine take_ (i := 8) (N := some 238) (v := ?_) (a' := ?_) #[t_,t_,t_,t_,t_,t_,t_,t_,t_,f_,f_,f_,f_,f_,f_,f_,f_,f_,f_,f_,f_,f_,f_,f_,f_,f_,f_,f_,f_,f_,f_,f_,f_,f_,f_,f_,f_,f_,f_,f_,f_,f_,f_,f_,f_,f_,f_,f_,f_,f_,f_,f_,f_,f_,f_,f_,f_] rfl rfl (take_ofW HT_.out HW_.out z4_) (fun _ _ _ h => h) (Or.inl ⟨by rfl, ?_⟩) hHeld ?_ ?_; rotate_left
                           ·rintro w' ⟨s0, s1, s2, s3, s4, s5, s6, s7, s8, s9, s10, s11, s12, s13, s14⟩; go_simp; with_reducible rfl
                           rotate_left
                           ·simp only [Act.put, List.setIfInBounds_toArray, List.set_cons_zero, List.set_cons_succ, i64_w, i32_w]; rfl
                           refine pure_ (i := 9) (N := some 239) (v := ?_) (a' := ?_) #[t_,t_,t_,t_,t_,t_,t_,t_,t_,t_,f_,f_,f_,f_,f_,f_,f_,f_,f_,f_,f_,f_,f_,f_,f_,f_,f_,f_,f_,f_,f_,f_,f_,f_,f_,f_,f_,f_,f_,f_,f_,f_,f_,f_,f_,f_,f_,f_,f_,f_,f_,f_,f_,f_,f_,f_,f_] rfl rfl (any_of HT_.out z4_) (fun _ _ _ h => h) (Or.inl ⟨by rfl, ?_⟩) ?_ ?_; rotate_left
                           ·intro w'; go_simp; with_reducible rfl
                           rotate_left
                           ·simp only [Act.put, List.setIfInBounds_toArray, List.set_cons_zero, List.set_cons_succ, i64_w, i32_w]; rfl
                           refine pure_ (i := 10) (N := some 240) (v := ?_) (a' := ?_) #[t_,t_,t_,t_,t_,t_,t_,t_,t_,t_,t_,f_,f_,f_,f_,f_,f_,f_,f_,f_,f_,f_,f_,f_,f_,f_,f_,f_,f_,f_,f_,f_,f_,f_,f_,f_,f_,f_,f_,f_,f_,f_,f_,f_,f_,f_,f_,f_,f_,f_,f_,f_,f_,f_,f_,f_,f_] rfl rfl (any_of HT_.out z4_) (fun _ _ _ h => h) (Or.inl ⟨by rfl, ?_⟩) ?_ ?_; rotate_left
                           ·intro w'; go_simp; with_reducible rfl
                           rotate_left
                           ·simp only [Act.put, List.setIfInBounds_toArray, List.set_cons_zero, List.set_cons_succ, i64_w, i32_w]; rfl
                           refine pure_ (i := 11) (N := some 241) (v := ?_) (a' := ?_) #[t_,t_,t_,t_,t_,t_,t_,t_,t_,t_,t_,t_,f_,f_,f_,f_,f_,f_,f_,f_,f_,f_,f_,f_,f_,f_,f_,f_,f_,f_,f_,f_,f_,f_,f_,f_,f_,f_,f_,f_,f_,f_,f_,f_,f_,f_,f_,f_,f_,f_,f_,f_,f_,f_,f_,f_,f_] rfl rfl (any_of HT_.out z4_) (fun _ _ _ h => h) (Or.inl ⟨by rfl, ?_⟩) ?_ ?_; rotate_left
                           ·intro w'; go_simp; with_reducible rfl
                           rotate_left
                           ·simp only [Act.put, List.setIfInBounds_toArray, List.set_cons_zero, List.set_cons_succ, i64_w, i32_w]; rfl
                           refine pure_ (i := 12) (N := some 242) (v := ?_) (a' := ?_) #[t_,t_,t_,t_,t_,t_,t_,t_,t_,t_,t_,t_,t_,f_,f_,f_,f_,f_,f_,f_,f_,f_,f_,f_,f_,f_,f_,f_,f_,f_,f_,f_,f_,f_,f_,f_,f_,f_,f_,f_,f_,f_,f_,f_,f_,f_,f_,f_,f_,f_,f_,f_,f_,f_,f_,f_,f_] rfl rfl (any_of HT_.out z4_) (fun _ _ _ h => h) (Or.inl ⟨by rfl, ?_⟩) ?_ ?_; rotate_left
                           ·intro w'; go_simp; with_reducible rfl
                           rotate_left
                           ·simp only [Act.put, List.setIfInBounds_toArray, List.set_cons_zero, List.set_cons_succ, i64_w, i32_w]; rfl
                           refine pure_ (i := 13) (N := some 243) (v := ?_) (a' := ?_) #[t_,t_,t_,t_,t_,t_,t_,t_,t_,t_,t_,t_,t_,t_,f_,f_,f_,f_,f_,f_,f_,f_,f_,f_,f_,f_,f_,f_,f_,f_,f_,f_,f_,f_,f_,f_,f_,f_,f_,f_,f_,f_,f_,f_,f_,f_,f_,f_,f_,f_,f_,f_,f_,f_,f_,f_,f_] rfl rfl (any_of HT_.out z4_) (fun _ _ _ h => h) (Or.inl ⟨by rfl, ?_⟩) ?_ ?_; rotate_left
                           ·intro w'; go_simp; with_reducible rfl
                           rotate_left
                           ·simp only [Act.put, List.setIfInBounds_toArray, List.set_cons_zero, List.set_cons_succ, i64_w, i32_w]; rfl
                           refine pure_ (i := 14) (N := some 244) (v := ?_) (a' := ?_) #[t_,t_,t_,t_,t_,t_,t_,t_,t_,t_,t_,t_,t_,t_,t_,f_,f_,f_,f_,f_,f_,f_,f_,f_,f_,f_,f_,f_,f_,f_,f_,f_,f_,f_,f_,f_,f_,f_,f_,f_,f_,f_,f_,f_,f_,f_,f_,f_,f_,f_,f_,f_,f_,f_,f_,f_,f_] rfl rfl (any_of HT_.out z4_) (fun _ _ _ h => h) (Or.inl ⟨by rfl, ?_⟩) ?_ ?_; rotate_left
                           ·intro w'; go_simp; with_reducible rfl
                           rotate_left
                           ·simp only [Act.put, List.setIfInBounds_toArray, List.set_cons_zero, List.set_cons_succ, i64_w, i32_w]; rfl
                           refine pure_ (i := 15) (N := some 245) (v := ?_) (a' := ?_) #[t_,t_,t_,t_,t_,t_,t_,t_,t_,t_,t_,t_,t_,t_,t_,t_,f_,f_,f_,f_,f_,f_,f_,f_,f_,f_,f_,f_,f_,f_,f_,f_,f_,f_,f_,f_,f_,f_,f_,f_,f_,f_,f_,f_,f_,f_,f_,f_,f_,f_,f_,f_,f_,f_,f_,f_,f_] rfl rfl (any_of HT_.out z4_) (fun _ _ _ h => h) (Or.inl ⟨by rfl, ?_⟩) ?_ ?_; rotate_left
                           ·intro w'; go_simp; with_reducible rfl
                           rotate_left
                           ·simp only [Act.put, List.setIfInBounds_toArray, List.set_cons_zero, List.set_cons_succ, i64_w, i32_w]; rfl
                           refine pure_ (i := 16) (N := some 246) (v := ?_) (a' := ?_) #[t_,t_,t_,t_,t_,t_,t_,t_,t_,t_,t_,t_,t_,t_,t_,t_,t_,f_,f_,f_,f_,f_,f_,f_,f_,f_,f_,f_,f_,f_,f_,f_,f_,f_,f_,f_,f_,f_,f_,f_,f_,f_,f_,f_,f_,f_,f_,f_,f_,f_,f_,f_,f_,f_,f_,f_,f_] rfl rfl (any_of HT_.out z4_) (fun _ _ _ h => h) (Or.inl ⟨by rfl, ?_⟩) ?_ ?_; rotate_left
                           ·intro w'; go_simp; with_reducible rfl
                           rotate_left
                           ·simp only [Act.put, List.setIfInBounds_toArray, List.set_cons_zero, List.set_cons_succ, i64_w, i32_w]; rfl
                           refine pure_ (i := 17) (N := some 247) (v := ?_) (a' := ?_) #[t_,t_,t_,t_,t_,t_,t_,t_,t_,t_,t_,t_,t_,t_,t_,t_,t_,t_,f_,f_,f_,f_,f_,f_,f_,f_,f_,f_,f_,f_,f_,f_,f_,f_,f_,f_,f_,f_,f_,f_,f_,f_,f_,f_,f_,f_,f_,f_,f_,f_,f_,f_,f_,f_,f_,f_,f_] rfl rfl (any_of HT_.out z4_) (fun _ _ _ h => h) (Or.inl ⟨by rfl, ?_⟩) ?_ ?_; rotate_left
                           ·intro w'; go_simp; with_reducible rfl
                           rotate_left
                           ·simp only [Act.put, List.setIfInBounds_toArray, List.set_cons_zero, List.set_cons_succ, i64_w, i32_w]; rfl
                           refine pure_ (i := 18) (N := some 248) (v := ?_) (a' := ?_) #[t_,t_,t_,t_,t_,t_,t_,t_,t_,t_,t_,t_,t_,t_,t_,t_,t_,t_,t_,f_,f_,f_,f_,f_,f_,f_,f_,f_,f_,f_,f_,f_,f_,f_,f_,f_,f_,f_,f_,f_,f_,f_,f_,f_,f_,f_,f_,f_,f_,f_,f_,f_,f_,f_,f_,f_,f_] rfl rfl (any_of HT_.out z4_) (fun _ _ _ h => h) (Or.inl ⟨by rfl, ?_⟩) ?_ ?_; rotate_left
                           ·intro w'; go_simp; with_reducible rfl
                           rotate_left
                           ·simp only [Act.put, List.setIfInBounds_toArray, List.set_cons_zero, List.set_cons_succ, i64_w, i32_w]; rfl
                           refine pure_ (i := 20) (N := some 250) (v := ?_) (a' := ?_) #[t_,t_,t_,t_,t_,t_,t_,t_,t_,t_,t_,t_,t_,t_,t_,t_,t_,t_,t_,f_,t_,f_,f_,f_,f_,f_,f_,f_,f_,f_,f_,f_,f_,f_,f_,f_,f_,f_,f_,f_,f_,f_,f_,f_,f_,f_,f_,f_,f_,f_,f_,f_,f_,f_,f_,f_,f_] rfl rfl (any_of HT_.out z4_) (fun _ _ _ h => h) (Or.inl ⟨by rfl, ?_⟩) ?_ ?_; rotate_left
                           ·intro w'; go_simp; with_reducible rfl
                           rotate_left
                           ·simp only [Act.put, List.setIfInBounds_toArray, List.set_cons_zero, List.set_cons_succ, i64_w, i32_w]; rfl
                           refine pure_ (i := 21) (N := some 251) (v := ?_) (a' := ?_) #[t_,t_,t_,t_,t_,t_,t_,t_,t_,t_,t_,t_,t_,t_,t_,t_,t_,t_,t_,f_,t_,t_,f_,f_,f_,f_,f_,f_,f_,f_,f_,f_,f_,f_,f_,f_,f_,f_,f_,f_,f_,f_,f_,f_,f_,f_,f_,f_,f_,f_,f_,f_,f_,f_,f_,f_,f_] rfl rfl (any_of HT_.out z4_) (fun _ _ _ h => h) (Or.inl ⟨by rfl, ?_⟩) ?_ ?_; rotate_left
                           ·intro w'; go_simp; with_reducible rfl
                           rotate_left
                           ·simp only [Act.put, List.setIfInBounds_toArray, List.set_cons_zero, List.set_cons_succ, i64_w, i32_w]; rfl
                           refine pure_ (i := 22) (N := some 252) (v := ?_) (a' := ?_) #[t_,t_,t_,t_,t_,t_,t_,t_,t_,t_,t_,t_,t_,t_,t_,t_,t_,t_,t_,f_,t_,t_,t_,f_,f_,f_,f_,f_,f_,f_,f_,f_,f_,f_,f_,f_,f_,f_,f_,f_,f_,f_,f_,f_,f_,f_,f_,f_,f_,f_,f_,f_,f_,f_,f_,f_,f_] rfl rfl (any_of HT_.out z4_) (fun _ _ _ h => h) (Or.inl ⟨by rfl, ?_⟩) ?_ ?_; rotate_left
                           ·intro w'; go_simp; with_reducible rfl
                           rotate_left
                           ·simp only [Act.put, List.setIfInBounds_toArray, List.set_cons_zero, List.set_cons_succ, i64_w, i32_w]; rfl
                           refine pure_ (i := 23) (N := some 253) (v := ?_) (a' := ?_) #[t_,t_,t_,t_,t_,t_,t_,t_,t_,t_,t_,t_,t_,t_,t_,t_,t_,t_,t_,f_,t_,t_,t_,t_,f_,f_,f_,f_,f_,f_,f_,f_,f_,f_,f_,f_,f_,f_,f_,f_,f_,f_,f_,f_,f_,f_,f_,f_,f_,f_,f_,f_,f_,f_,f_,f_,f_] rfl rfl (any_of HT_.out z4_) (fun _ _ _ h => h) (Or.inl ⟨by rfl, ?_⟩) ?_ ?_; rotate_left
                           ·intro w'; go_simp; with_reducible rfl
                           rotate_left
                           ·simp only [Act.put, List.setIfInBounds_toArray, List.set_cons_zero, List.set_cons_succ, i64_w, i32_w]; rfl
                           refine pure_ (i := 24) (N := some 254) (v := ?_) (a' := ?_) #[t_,t_,t_,t_,t_,t_,t_,t_,t_,t_,t_,t_,t_,t_,t_,t_,t_,t_,t_,f_,t_,t_,t_,t_,t_,f_,f_,f_,f_,f_,f_,f_,f_,f_,f_,f_,f_,f_,f_,f_,f_,f_,f_,f_,f_,f_,f_,f_,f_,f_,f_,f_,f_,f_,f_,f_,f_] rfl rfl (any_of HT_.out z4_) (fun _ _ _ h => h) (Or.inl ⟨by rfl, ?_⟩) ?_ ?_; rotate_left
                           ·intro w'; go_simp; with_reducible rfl
                           rotate_left
                           ·simp only [Act.put, List.setIfInBounds_toArray, List.set_cons_zero, List.set_cons_succ, i64_w, i32_w]; rfl
                           refine take_ (i := 19) (N := some 249) (v := ?_) (a' := ?_) #[t_,t_,t_,t_,t_,t_,t_,t_,t_,t_,t_,t_,t_,t_,t_,t_,t_,t_,t_,t_,t_,t_,t_,t_,t_,f_,f_,f_,f_,f_,f_,f_,f_,f_,f_,f_,f_,f_,f_,f_,f_,f_,f_,f_,f_,f_,f_,f_,f_,f_,f_,f_,f_,f_,f_,f_,f_] rfl rfl (take_ofW HT_.out HW_.out z4_) (fun _ _ _ h => h) (Or.inl ⟨by rfl, ?_⟩) hHeld ?_ ?_; rotate_left
                           ·rintro w' ⟨s0, s1, s2, s3, s4, s5, s6, s7, s8, s9, s10, s11, s12, s13, s14⟩; go_simp; with_reducible rfl
                           rotate_left
                           ·simp only [Act.put, List.setIfInBounds_toArray, List.set_cons_zero, List.set_cons_succ, i64_w, i32_w]; rfl
                           refine take_ (i := 25) (N := some 255) (v := ?_) (a' := ?_) #[t_,t_,t_,t_,t_,t_,t_,t_,t_,t_,t_,t_,t_,t_,t_,t_,t_,t_,t_,t_,t_,t_,t_,t_,t_,t_,f_,f_,f_,f_,f_,f_,f_,f_,f_,f_,f_,f_,f_,f_,f_,f_,f_,f_,f_,f_,f_,f_,f_,f_,f_,f_,f_,f_,f_,f_,f_] rfl rfl (take_ofW HT_.out HW_.out z4_) (fun _ _ _ h => h) (Or.inl ⟨by rfl, ?_⟩) hHeld ?_ ?_; rotate_left
                           ·rintro w' ⟨s0, s1, s2, s3, s4, s5, s6, s7, s8, s9, s10, s11, s12, s13, s14⟩; go_simp; with_reducible rfl
                           rotate_left
                           ·simp only [Act.put, List.setIfInBounds_toArray, List.set_cons_zero, List.set_cons_succ, i64_w, i32_w]; rfl
                           refine pure_ (i := 26) (N := some 256) (v := ?_) (a' := ?_) #[t_,t_,t_,t_,t_,t_,t_,t_,t_,t_,t_,t_,t_,t_,t_,t_,t_,t_,t_,t_,t_,t_,t_,t_,t_,t_,t_,f_,f_,f_,f_,f_,f_,f_,f_,f_,f_,f_,f_,f_,f_,f_,f_,f_,f_,f_,f_,f_,f_,f_,f_,f_,f_,f_,f_,f_,f_] rfl rfl (any_of HT_.out z4_) (fun _ _ _ h => h) (Or.inl ⟨by rfl, ?_⟩) ?_ ?_; rotate_left
                           ·intro w'; go_simp; with_reducible rfl
                           rotate_left
                           ·simp only [Act.put, List.setIfInBounds_toArray, List.set_cons_zero, List.set_cons_succ, i64_w, i32_w]; rfl
                           refine pure_ (i := 27) (N := some 257) (v := ?_) (a' := ?_) #[t_,t_,t_,t_,t_,t_,t_,t_,t_,t_,t_,t_,t_,t_,t_,t_,t_,t_,t_,t_,t_,t_,t_,t_,t_,t_,t_,t_,f_,f_,f_,f_,f_,f_,f_,f_,f_,f_,f_,f_,f_,f_,f_,f_,f_,f_,f_,f_,f_,f_,f_,f_,f_,f_,f_,f_,f_] rfl rfl (any_of HT_.out z4_) (fun _ _ _ h => h) (Or.inl ⟨by rfl, ?_⟩) ?_ ?_; rotate_left
                           ·intro w'; go_simp; with_reducible rfl
                           rotate_left
                           ·simp only [Act.put, List.setIfInBounds_toArray, List.set_cons_zero, List.set_cons_succ, i64_w, i32_w]; rfl
                           refine pure_ (i := 28) (N := some 258) (v := ?_) (a' := ?_) #[t_,t_,t_,t_,t_,t_,t_,t_,t_,t_,t_,t_,t_,t_,t_,t_,t_,t_,t_,t_,t_,t_,t_,t_,t_,t_,t_,t_,t_,f_,f_,f_,f_,f_,f_,f_,f_,f_,f_,f_,f_,f_,f_,f_,f_,f_,f_,f_,f_,f_,f_,f_,f_,f_,f_,f_,f_] rfl rfl (any_of HT_.out z4_) (fun _ _ _ h => h) (Or.inl ⟨by rfl, ?_⟩) ?_ ?_; rotate_left
                           ·intro w'; go_simp; with_reducible rfl
                           rotate_left
                           ·simp only [Act.put, List.setIfInBounds_toArray, List.set_cons_zero, List.set_cons_succ, i64_w, i32_w]; rfl
                           refine pure_ (i := 29) (N := some 259) (v := ?_) (a' := ?_) #[t_,t_,t_,t_,t_,t_,t_,t_,t_,t_,t_,t_,t_,t_,t_,t_,t_,t_,t_,t_,t_,t_,t_,t_,t_,t_,t_,t_,t_,t_,f_,f_,f_,f_,f_,f_,f_,f_,f_,f_,f_,f_,f_,f_,f_,f_,f_,f_,f_,f_,f_,f_,f_,f_,f_,f_,f_] rfl rfl (any_of HT_.out z4_) (fun _ _ _ h => h) (Or.inl ⟨by rfl, ?_⟩) ?_ ?_; rotate_left
                           ·intro w'; go_simp; with_reducible rfl
                           rotate_left
                           ·simp only [Act.put, List.setIfInBounds_toArray, List.set_cons_zero, List.set_cons_succ, i64_w, i32_w]; rfl
                           refine pure_ (i := 30) (N := some 260) (v := ?_) (a' := ?_) #[t_,t_,t_,t_,t_,t_,t_,t_,t_,t_,t_,t_,t_,t_,t_,t_,t_,t_,t_,t_,t_,t_,t_,t_,t_,t_,t_,t_,t_,t_,t_,f_,f_,f_,f_,f_,f_,f_,f_,f_,f_,f_,f_,f_,f_,f_,f_,f_,f_,f_,f_,f_,f_,f_,f_,f_,f_] rfl rfl (any_of HT_.out z4_) (fun _ _ _ h => h) (Or.inl ⟨by rfl, ?_⟩) ?_ ?_; rotate_left
                           ·intro w'; go_simp; with_reducible rfl
                           rotate_left
                           ·simp only [Act.put, List.setIfInBounds_toArray, List.set_cons_zero, List.set_cons_succ, i64_w, i32_w]; rfl
                           refine pure_ (i := 31) (N := some 261) (v := ?_) (a' := ?_) #[t_,t_,t_,t_,t_,t_,t_,t_,t_,t_,t_,t_,t_,t_,t_,t_,t_,t_,t_,t_,t_,t_,t_,t_,t_,t_,t_,t_,t_,t_,t_,t_,f_,f_,f_,f_,f_,f_,f_,f_,f_,f_,f_,f_,f_,f_,f_,f_,f_,f_,f_,f_,f_,f_,f_,f_,f_] rfl rfl (any_of HT_.out z4_) (fun _ _ _ h => h) (Or.inl ⟨by rfl, ?_⟩) ?_ ?_; rotate_left
                           ·intro w'; go_simp; with_reducible rfl
                           rotate_left
                           ·simp only [Act.put, List.setIfInBounds_toArray, List.set_cons_zero, List.set_cons_succ, i64_w, i32_w]; rfl
                           refine pure_ (i := 33) (N := some 263) (v := ?_) (a' := ?_) #[t_,t_,t_,t_,t_,t_,t_,t_,t_,t_,t_,t_,t_,t_,t_,t_,t_,t_,t_,t_,t_,t_,t_,t_,t_,t_,t_,t_,t_,t_,t_,t_,f_,t_,f_,f_,f_,f_,f_,f_,f_,f_,f_,f_,f_,f_,f_,f_,f_,f_,f_,f_,f_,f_,f_,f_,f_] rfl rfl (any_of HT_.out z4_) (fun _ _ _ h => h) (Or.inl ⟨by rfl, ?_⟩) ?_ ?_; rotate_left
                           ·intro w'; go_simp; with_reducible rfl
                           rotate_left
                           ·simp only [Act.put, List.setIfInBounds_toArray, List.set_cons_zero, List.set_cons_succ, i64_w, i32_w]; rfl
                           refine pure_ (i := 34) (N := some 264) (v := ?_) (a' := ?_) #[t_,t_,t_,t_,t_,t_,t_,t_,t_,t_,t_,t_,t_,t_,t_,t_,t_,t_,t_,t_,t_,t_,t_,t_,t_,t_,t_,t_,t_,t_,t_,t_,f_,t_,t_,f_,f_,f_,f_,f_,f_,f_,f_,f_,f_,f_,f_,f_,f_,f_,f_,f_,f_,f_,f_,f_,f_] rfl rfl (any_of HT_.out z4_) (fun _ _ _ h => h) (Or.inl ⟨by rfl, ?_⟩) ?_ ?_; rotate_left
                           ·intro w'; go_simp; with_reducible rfl
                           rotate_left
                           ·simp only [Act.put, List.setIfInBounds_toArray, List.set_cons_zero, List.set_cons_succ, i64_w, i32_w]; rfl
                           refine pure_ (i := 35) (N := some 265) (v := ?_) (a' := ?_) #[t_,t_,t_,t_,t_,t_,t_,t_,t_,t_,t_,t_,t_,t_,t_,t_,t_,t_,t_,t_,t_,t_,t_,t_,t_,t_,t_,t_,t_,t_,t_,t_,f_,t_,t_,t_,f_,f_,f_,f_,f_,f_,f_,f_,f_,f_,f_,f_,f_,f_,f_,f_,f_,f_,f_,f_,f_] rfl rfl (any_of HT_.out z4_) (fun _ _ _ h => h) (Or.inl ⟨by rfl, ?_⟩) ?_ ?_; rotate_left
                           ·intro w'; go_simp; with_reducible rfl
                           rotate_left
                           ·simp only [Act.put, List.setIfInBounds_toArray, List.set_cons_zero, List.set_cons_succ, i64_w, i32_w]; rfl
                           refine pure_ (i := 36) (N := some 266) (v := ?_) (a' := ?_) #[t_,t_,t_,t_,t_,t_,t_,t_,t_,t_,t_,t_,t_,t_,t_,t_,t_,t_,t_,t_,t_,t_,t_,t_,t_,t_,t_,t_,t_,t_,t_,t_,f_,t_,t_,t_,t_,f_,f_,f_,f_,f_,f_,f_,f_,f_,f_,f_,f_,f_,f_,f_,f_,f_,f_,f_,f_] rfl rfl (any_of HT_.out z4_) (fun _ _ _ h => h) (Or.inl ⟨by rfl, ?_⟩) ?_ ?_; rotate_left
                           ·intro w'; go_simp; with_reducible rfl
                           rotate_left
                           ·simp only [Act.put, List.setIfInBounds_toArray, List.set_cons_zero, List.set_cons_succ, i64_w, i32_w]; rfl
                           refine pure_ (i := 37) (N := some 267) (v := ?_) (a' := ?_) #[t_,t_,t_,t_,t_,t_,t_,t_,t_,t_,t_,t_,t_,t_,t_,t_,t_,t_,t_,t_,t_,t_,t_,t_,t_,t_,t_,t_,t_,t_,t_,t_,f_,t_,t_,t_,t_,t_,f_,f_,f_,f_,f_,f_,f_,f_,f_,f_,f_,f_,f_,f_,f_,f_,f_,f_,f_] rfl rfl (any_of HT_.out z4_) (fun _ _ _ h => h) (Or.inl ⟨by rfl, ?_⟩) ?_ ?_; rotate_left
                           ·intro w'; go_simp; with_reducible rfl
                           rotate_left
                           ·simp only [Act.put, List.setIfInBounds_toArray, List.set_cons_zero, List.set_cons_succ, i64_w, i32_w]; rfl
                           refine take_ (i := 32) (N := some 262) (v := ?_) (a' := ?_) #[t_,t_,t_,t_,t_,t_,t_,t_,t_,t_,t_,t_,t_,t_,t_,t_,t_,t_,t_,t_,t_,t_,t_,t_,t_,t_,t_,t_,t_,t_,t_,t_,t_,t_,t_,t_,t_,t_,f_,f_,f_,f_,f_,f_,f_,f_,f_,f_,f_,f_,f_,f_,f_,f_,f_,f_,f_] rfl rfl (take_ofW HT_.out HW_.out z4_) (fun _ _ _ h => h) (Or.inl ⟨by rfl, ?_⟩) hHeld ?_ ?_; rotate_left
                           ·rintro w' ⟨s0, s1, s2, s3, s4, s5, s6, s7, s8, s9, s10, s11, s12, s13, s14⟩; go_simp; with_reducible rfl
                           rotate_left
                           ·simp only [Act.put, List.setIfInBounds_toArray, List.set_cons_zero, List.set_cons_succ, i64_w, i32_w]; rfl
                           refine take_ (i := 38) (N := some 268) (v := ?_) (a' := ?_) #[t_,t_,t_,t_,t_,t_,t_,t_,t_,t_,t_,t_,t_,t_,t_,t_,t_,t_,t_,t_,t_,t_,t_,t_,t_,t_,t_,t_,t_,t_,t_,t_,t_,t_,t_,t_,t_,t_,t_,f_,f_,f_,f_,f_,f_,f_,f_,f_,f_,f_,f_,f_,f_,f_,f_,f_,f_] rfl rfl (take_ofW HT_.out HW_.out z4_) (fun _ _ _ h => h) (Or.inl ⟨by rfl, ?_⟩) hHeld ?_ ?_; rotate_left
                           ·rintro w' ⟨s0, s1, s2, s3, s4, s5, s6, s7, s8, s9, s10, s11, s12, s13, s14⟩; go_simp; with_reducible rfl
                           rotate_left
                           ·simp only [Act.put, List.setIfInBounds_toArray, List.set_cons_zero, List.set_cons_succ, i64_w, i32_w]; rfl
                           refine pure_ (i := 39) (N := some 269) (v := ?_) (a' := ?_) #[t_,t_,t_,t_,t_,t_,t_,t_,t_,t_,t_,t_,t_,t_,t_,t_,t_,t_,t_,t_,t_,t_,t_,t_,t_,t_,t_,t_,t_,t_,t_,t_,t_,t_,t_,t_,t_,t_,t_,t_,f_,f_,f_,f_,f_,f_,f_,f_,f_,f_,f_,f_,f_,f_,f_,f_,f_] rfl rfl (any_of HT_.out z4_) (fun _ _ _ h => h) (Or.inl ⟨by rfl, ?_⟩) ?_ ?_; rotate_left
                           ·intro w'; go_simp; with_reducible rfl
                           rotate_left
                           ·simp only [Act.put, List.setIfInBounds_toArray, List.set_cons_zero, List.set_cons_succ, i64_w, i32_w]; rfl
                           refine pure_ (i := 40) (N := some 270) (v := ?_) (a' := ?_) #[t_,t_,t_,t_,t_,t_,t_,t_,t_,t_,t_,t_,t_,t_,t_,t_,t_,t_,t_,t_,t_,t_,t_,t_,t_,t_,t_,t_,t_,t_,t_,t_,t_,t_,t_,t_,t_,t_,t_,t_,t_,f_,f_,f_,f_,f_,f_,f_,f_,f_,f_,f_,f_,f_,f_,f_,f_] rfl rfl (any_of HT_.out z4_) (fun _ _ _ h => h) (Or.inl ⟨by rfl, ?_⟩) ?_ ?_; rotate_left
                           ·intro w'; go_simp; with_reducible rfl
                           rotate_left
                           ·simp only [Act.put, List.setIfInBounds_toArray, List.set_cons_zero, List.set_cons_succ, i64_w, i32_w]; rfl
                           refine pure_ (i := 41) (N := some 271) (v := undef) (a' := ?_) #[t_,t_,t_,t_,t_,t_,t_,t_,t_,t_,t_,t_,t_,t_,t_,t_,t_,t_,t_,t_,t_,t_,t_,t_,t_,t_,t_,t_,t_,t_,t_,t_,t_,t_,t_,t_,t_,t_,t_,t_,t_,t_,f_,f_,f_,f_,f_,f_,f_,f_,f_,f_,f_,f_,f_,f_,f_] rfl rfl (any_of HT_.out z4_) (fun _ _ _ h => h) (Or.inr ⟨by rfl, rfl⟩) ?_ ?_; rotate_left
                           ·simp only [Act.put, List.setIfInBounds_toArray, List.set_cons_zero, List.set_cons_succ, i64_w, i32_w]; rfl
                           refine pure_ (i := 42) (N := some 272) (v := undef) (a' := ?_) #[t_,t_,t_,t_,t_,t_,t_,t_,t_,t_,t_,t_,t_,t_,t_,t_,t_,t_,t_,t_,t_,t_,t_,t_,t_,t_,t_,t_,t_,t_,t_,t_,t_,t_,t_,t_,t_,t_,t_,t_,t_,t_,t_,f_,f_,f_,f_,f_,f_,f_,f_,f_,f_,f_,f_,f_,f_] rfl rfl (any_of HT_.out z4_) (fun _ _ _ h => h) (Or.inr ⟨by rfl, rfl⟩) ?_ ?_; rotate_left
                           ·simp only [Act.put, List.setIfInBounds_toArray, List.set_cons_zero, List.set_cons_succ, i64_w, i32_w]; rfl
                           refine pure_ (i := 43) (N := some 273) (v := undef) (a' := ?_) #[t_,t_,t_,t_,t_,t_,t_,t_,t_,t_,t_,t_,t_,t_,t_,t_,t_,t_,t_,t_,t_,t_,t_,t_,t_,t_,t_,t_,t_,t_,t_,t_,t_,t_,t_,t_,t_,t_,t_,t_,t_,t_,t_,t_,f_,f_,f_,f_,f_,f_,f_,f_,f_,f_,f_,f_,f_] rfl rfl (any_of HT_.out z4_) (fun _ _ _ h => h) (Or.inr ⟨by rfl, rfl⟩) ?_ ?_; rotate_left
                           ·simp only [Act.put, List.setIfInBounds_toArray, List.set_cons_zero, List.set_cons_succ, i64_w, i32_w]; rfl
                           refine pure_ (i := 44) (N := some 274) (v := undef) (a' := ?_) #[t_,t_,t_,t_,t_,t_,t_,t_,t_,t_,t_,t_,t_,t_,t_,t_,t_,t_,t_,t_,t_,t_,t_,t_,t_,t_,t_,t_,t_,t_,t_,t_,t_,t_,t_,t_,t_,t_,t_,t_,t_,t_,t_,t_,t_,f_,f_,f_,f_,f_,f_,f_,f_,f_,f_,f_,f_] rfl rfl (any_of HT_.out z4_) (fun _ _ _ h => h) (Or.inr ⟨by rfl, rfl⟩) ?_ ?_; rotate_left
                           ·simp only [Act.put, List.setIfInBounds_toArray, List.set_cons_zero, List.set_cons_succ, i64_w, i32_w]; rfl
                           refine pure_ (i := 45) (N := some 275) (v := undef) (a' := ?_) #[t_,t_,t_,t_,t_,t_,t_,t_,t_,t_,t_,t_,t_,t_,t_,t_,t_,t_,t_,t_,t_,t_,t_,t_,t_,t_,t_,t_,t_,t_,t_,t_,t_,t_,t_,t_,t_,t_,t_,t_,t_,t_,t_,t_,t_,t_,f_,f_,f_,f_,f_,f_,f_,f_,f_,f_,f_] rfl rfl (any_of HT_.out z4_) (fun _ _ _ h => h) (Or.inr ⟨by rfl, rfl⟩) ?_ ?_; rotate_left
                           ·simp only [Act.put, List.setIfInBounds_toArray, List.set_cons_zero, List.set_cons_succ, i64_w, i32_w]; rfl
                           refine pure_ (i := 46) (N := some 276) (v := undef) (a' := ?_) #[t_,t_,t_,t_,t_,t_,t_,t_,t_,t_,t_,t_,t_,t_,t_,t_,t_,t_,t_,t_,t_,t_,t_,t_,t_,t_,t_,t_,t_,t_,t_,t_,t_,t_,t_,t_,t_,t_,t_,t_,t_,t_,t_,t_,t_,t_,t_,f_,f_,f_,f_,f_,f_,f_,f_,f_,f_] rfl rfl (any_of HT_.out z4_) (fun _ _ _ h => h) (Or.inr ⟨by rfl, rfl⟩) ?_ ?_; rotate_left
                           ·simp only [Act.put, List.setIfInBounds_toArray, List.set_cons_zero, List.set_cons_succ, i64_w, i32_w]; rfl
                           refine pure_ (i := 47) (N := some 277) (v := undef) (a' := ?_) #[t_,t_,t_,t_,t_,t_,t_,t_,t_,t_,t_,t_,t_,t_,t_,t_,t_,t_,t_,t_,t_,t_,t_,t_,t_,t_,t_,t_,t_,t_,t_,t_,t_,t_,t_,t_,t_,t_,t_,t_,t_,t_,t_,t_,t_,t_,t_,t_,f_,f_,f_,f_,f_,f_,f_,f_,f_] rfl rfl (any_of HT_.out z4_) (fun _ _ _ h => h) (Or.inr ⟨by rfl, rfl⟩) ?_ ?_; rotate_left
                           ·simp only [Act.put, List.setIfInBounds_toArray, List.set_cons_zero, List.set_cons_succ, i64_w, i32_w]; rfl
                           refine pure_ (i := 48) (N := some 278) (v := undef) (a' := ?_) #[t_,t_,t_,t_,t_,t_,t_,t_,t_,t_,t_,t_,t_,t_,t_,t_,t_,t_,t_,t_,t_,t_,t_,t_,t_,t_,t_,t_,t_,t_,t_,t_,t_,t_,t_,t_,t_,t_,t_,t_,t_,t_,t_,t_,t_,t_,t_,t_,t_,f_,f_,f_,f_,f_,f_,f_,f_] rfl rfl (any_of HT_.out z4_) (fun _ _ _ h => h) (Or.inr ⟨by rfl, rfl⟩) ?_ ?_; rotate_left
                           ·simp only [Act.put, List.setIfInBounds_toArray, List.set_cons_zero, List.set_cons_succ, i64_w, i32_w]; rfl
                           refine pure_ (i := 49) (N := some 279) (v := undef) (a' := ?_) #[t_,t_,t_,t_,t_,t_,t_,t_,t_,t_,t_,t_,t_,t_,t_,t_,t_,t_,t_,t_,t_,t_,t_,t_,t_,t_,t_,t_,t_,t_,t_,t_,t_,t_,t_,t_,t_,t_,t_,t_,t_,t_,t_,t_,t_,t_,t_,t_,t_,t_,f_,f_,f_,f_,f_,f_,f_] rfl rfl (any_of HT_.out z4_) (fun _ _ _ h => h) (Or.inr ⟨by rfl, rfl⟩) ?_ ?_; rotate_left
                           ·simp only [Act.put, List.setIfInBounds_toArray, List.set_cons_zero, List.set_cons_succ, i64_w, i32_w]; rfl
                           refine pure_ (i := 50) (N := some 280) (v := undef) (a' := ?_) #[t_,t_,t_,t_,t_,t_,t_,t_,t_,t_,t_,t_,t_,t_,t_,t_,t_,t_,t_,t_,t_,t_,t_,t_,t_,t_,t_,t_,t_,t_,t_,t_,t_,t_,t_,t_,t_,t_,t_,t_,t_,t_,t_,t_,t_,t_,t_,t_,t_,t_,t_,f_,f_,f_,f_,f_,f_] rfl rfl (any_of HT_.out z4_) (fun _ _ _ h => h) (Or.inr ⟨by rfl, rfl⟩) ?_ ?_; rotate_left
                           ·simp only [Act.put, List.setIfInBounds_toArray, List.set_cons_zero, List.set_cons_succ, i64_w, i32_w]; rfl
                           refine pure_ (i := 51) (N := some 281) (v := undef) (a' := ?_) #[t_,t_,t_,t_,t_,t_,t_,t_,t_,t_,t_,t_,t_,t_,t_,t_,t_,t_,t_,t_,t_,t_,t_,t_,t_,t_,t_,t_,t_,t_,t_,t_,t_,t_,t_,t_,t_,t_,t_,t_,t_,t_,t_,t_,t_,t_,t_,t_,t_,t_,t_,t_,f_,f_,f_,f_,f_] rfl rfl (any_of HT_.out z4_) (fun _ _ _ h => h) (Or.inr ⟨by rfl, rfl⟩) ?_ ?_; rotate_left
                           ·simp only [Act.put, List.setIfInBounds_toArray, List.set_cons_zero, List.set_cons_succ, i64_w, i32_w]; rfl
                           refine pure_ (i := 52) (N := some 282) (v := undef) (a' := ?_) #[t_,t_,t_,t_,t_,t_,t_,t_,t_,t_,t_,t_,t_,t_,t_,t_,t_,t_,t_,t_,t_,t_,t_,t_,t_,t_,t_,t_,t_,t_,t_,t_,t_,t_,t_,t_,t_,t_,t_,t_,t_,t_,t_,t_,t_,t_,t_,t_,t_,t_,t_,t_,t_,f_,f_,f_,f_] rfl rfl (any_of HT_.out z4_) (fun _ _ _ h => h) (Or.inr ⟨by rfl, rfl⟩) ?_ ?_; rotate_left
                           ·simp only [Act.put, List.setIfInBounds_toArray, List.set_cons_zero, List.set_cons_succ, i64_w, i32_w]; rfl
                           refine pure_ (i := 53) (N := some 283) (v := ?_) (a' := ?_) #[t_,t_,t_,t_,t_,t_,t_,t_,t_,t_,t_,t_,t_,t_,t_,t_,t_,t_,t_,t_,t_,t_,t_,t_,t_,t_,t_,t_,t_,t_,t_,t_,t_,t_,t_,t_,t_,t_,t_,t_,t_,t_,t_,t_,t_,t_,t_,t_,t_,t_,t_,t_,t_,t_,f_,f_,f_] rfl rfl (any_of HT_.out z4_) (fun _ _ _ h => h) (Or.inl ⟨by rfl, ?_⟩) ?_ ?_; rotate_left
                           ·intro w'; go_simp; with_reducible rfl
                           rotate_left
                           ·simp only [Act.put, List.setIfInBounds_toArray, List.set_cons_zero, List.set_cons_succ, i64_w, i32_w]; rfl
                           refine pure_ (i := 54) (N := some 284) (v := ?_) (a' := ?_) #[t_,t_,t_,t_,t_,t_,t_,t_,t_,t_,t_,t_,t_,t_,t_,t_,t_,t_,t_,t_,t_,t_,t_,t_,t_,t_,t_,t_,t_,t_,t_,t_,t_,t_,t_,t_,t_,t_,t_,t_,t_,t_,t_,t_,t_,t_,t_,t_,t_,t_,t_,t_,t_,t_,t_,f_,f_] rfl rfl (any_of HT_.out z4_) (fun _ _ _ h => h) (Or.inl ⟨by rfl, ?_⟩) ?_ ?_; rotate_left
                           ·intro w'; go_simp; with_reducible rfl
                           rotate_left
                           ·simp only [Act.put, List.setIfInBounds_toArray, List.set_cons_zero, List.set_cons_succ, i64_w, i32_w]; rfl
                           refine pure_ (i := 55) (N := some 285) (v := ?_) (a' := ?_) #[t_,t_,t_,t_,t_,t_,t_,t_,t_,t_,t_,t_,t_,t_,t_,t_,t_,t_,t_,t_,t_,t_,t_,t_,t_,t_,t_,t_,t_,t_,t_,t_,t_,t_,t_,t_,t_,t_,t_,t_,t_,t_,t_,t_,t_,t_,t_,t_,t_,t_,t_,t_,t_,t_,t_,t_,f_] rfl rfl (any_of HT_.out z4_) (fun _ _ _ h => h) (Or.inl ⟨by rfl, ?_⟩) ?_ ?_; rotate_left
                           ·intro w'; go_simp; with_reducible rfl
                           rotate_left
                           ·simp only [Act.put, List.setIfInBounds_toArray, List.set_cons_zero, List.set_cons_succ, i64_w, i32_w]; rfl
                           refine pure_ (i := 56) (N := some 286) (v := ?_) (a' := ?_) #[t_,t_,t_,t_,t_,t_,t_,t_,t_,t_,t_,t_,t_,t_,t_,t_,t_,t_,t_,t_,t_,t_,t_,t_,t_,t_,t_,t_,t_,t_,t_,t_,t_,t_,t_,t_,t_,t_,t_,t_,t_,t_,t_,t_,t_,t_,t_,t_,t_,t_,t_,t_,t_,t_,t_,t_,t_] rfl rfl (any_of HT_.out z4_) (fun _ _ _ h => h) (Or.inl ⟨by rfl, ?_⟩) ?_ ?_; rotate_left
                           ·intro w'; go_simp; with_reducible rfl
                           rotate_left
                           ·simp only [Act.put, List.setIfInBounds_toArray, List.set_cons_zero, List.set_cons_succ, i64_w, i32_w]; rfl
                           refine done_ (done_of HT_.out z4_) ?_; (try go_wp2); go_roundg k3
                           case measure => have := HJ12.out; have := HJ102.out; have := HK3.out; omega
                           case rel => exact ⟨(wrap64 (x27_3 + 1)), z5_, H', ⟨by have := HJ12.out; have := HJ102.out; have := HK3.out; omega⟩, ⟨z7_⟩, ⟨z19_⟩, ⟨z15_⟩, ⟨z0_⟩⟩
                      ·rw [if_neg c141] at H; exact absurd H (by simp)
                     ·rw [if_neg c140] at H; exact absurd H (by simp)
                    ·rw [if_neg c138] at H; have c138b0 : decide (0 < x27_3) = false := decide_eq_false c138; clear c138
                     as_aux_lemma =>
                       have H' := Aside0.mk H; clear H; (try go_wp2); have n0_ := Aside0.mk (Kd.R_drew HO_4.out); have n1_ := Aside0.mk (Kd.R_drew HO_11.out); have n2_ := Aside0.mk (Kd.R_drew HO_15.out); have n3_ := Aside0.mk (below_drew1 HB.out); clear HO_4; clear HO_11; clear HO_15; clear HB; have HO_4 := n0_; have HO_11 := n1_; have HO_15 := n2_; have HB := n3_; clear n0_ n1_ n2_ n3_; have p406 : 0 ≤ (x27_3 : Int) := of_decide_eq_true z2_; have q406 : x27_3 < (t368.length : Int) := of_decide_eq_true z2_; obtain ⟨ad406, e406, hx406_0, hx406_1, hx406_2⟩ := at_T77 (Kd.R_reads' HO_11.out).2.2 x27_3 p406 q406; cases e406; replace p406 := eq_true p406; replace q406 := eq_true q406; have p407 : 0 ≤ (x27_3 : Int) := of_decide_eq_true z2_; have q407 : x27_3 < (t368.length : Int) := of_decide_eq_true z2_; obtain ⟨ad407, e407, hx407_0, hx407_1, hx407_2⟩ := at_T77 (Kd.R_reads' HO_11.out).2.2 x27_3 p407 q407; obtain rfl : ad406 = ad407 := (by injection e407); replace p407 := eq_true p407; replace q407 := eq_true q407; refine start_ (n := 18) (S := fun w' => w'.cell? (ad406.add ((x27_3).toNat * 3)) = some (.int .i64 ((rd_T77 t368 x27_3).f0)) ∧ w'.cell? ⟨(ad406.add ((x27_3).toNat * 3)).block, (ad406.add ((x27_3).toNat * 3)).off + 1, none⟩ = some (.int .i64 ((rd_T77 t368 x27_3).f1)) ∧ w'.cell? ⟨(ad406.add ((x27_3).toNat * 3)).block, (ad406.add ((x27_3).toNat * 3)).off + 2, none⟩ = some (.int .i64 ((rd_T77 t368 x27_3).f2)) ∧ w'.cell? (ad406.add ((x27_3).toNat * 3)) = some (.int .i64 ((rd_T77 t368 x27_3).f0)) ∧ w'.cell? ⟨(ad406.add ((x27_3).toNat * 3)).block, (ad406.add ((x27_3).toNat * 3)).off + 1, none⟩ = some (.int .i64 ((rd_T77 t368 x27_3).f1)) ∧ w'.cell? ⟨(ad406.add ((x27_3).toNat * 3)).block, (ad406.add ((x27_3).toNat * 3)).off + 2, none⟩ = some (.int .i64 ((rd_T77 t368 x27_3).f2))) (ds := []) #[f_,f_,f_,f_,f_,f_,f_,f_,f_,f_,f_,f_,f_,f_,f_,f_,f_,f_] z4_ rfl rfl ⟨hx406_0, hx406_1, hx406_2, hx407_0, hx407_1, hx407_2⟩ (fun hHeld => ?_); refine with_tabW laws_FnNets.tab22 laws_FnNets.bits22 (fun HT_ HW_ => ?_); generalize wr.drew = w151 at HO_4 HO_11 HO_15 HB hx406_0 hx406_1 hx406_2 hx407_0 hx407_1 hx407_2 hHeld ⊢; refine pure_ (i := 0) (N := some 215) (v := ?_) (a' := ?_) #[t_,f_,f_,f_,f_,f_,f_,f_,f_,f_,f_,f_,f_,f_,f_,f_,f_,f_] rfl rfl (any_of HT_.out z4_) (fun _ _ _ h => h) (Or.inl ⟨by rfl, ?_⟩) ?_ ?_; rotate_left
                       ·intro w'; go_simp; with_reducible rfl
                       rotate_left
                       ·simp only [Act.put, List.setIfInBounds_toArray, List.set_cons_zero, List.set_cons_succ, i64_w, i32_w]; rfl
                       refine pure_ (i := 1) (N := some 216) (v := ?_) (a' := ?_) #[t_,t_,f_,f_,f_,f_,f_,f_,f_,f_,f_,f_,f_,f_,f_,f_,f_,f_] rfl rfl (any_of HT_.out z4_) (fun _ _ _ h => h) (Or.inl ⟨by rfl, ?_⟩) ?_ ?_; rotate_left
                       ·intro w'; go_simp; with_reducible rfl
                       rotate_left
                       ·simp only [Act.put, List.setIfInBounds_toArray, List.set_cons_zero, List.set_cons_succ, i64_w, i32_w]; rfl
                       refine pure_ (i := 2) (N := some 217) (v := ?_) (a' := ?_) #[t_,t_,t_,f_,f_,f_,f_,f_,f_,f_,f_,f_,f_,f_,f_,f_,f_,f_] rfl rfl (any_of HT_.out z4_) (fun _ _ _ h => h) (Or.inl ⟨by rfl, ?_⟩) ?_ ?_; rotate_left
                       ·intro w'; go_simp; with_reducible rfl
                       rotate_left
                       ·simp only [Act.put, List.setIfInBounds_toArray, List.set_cons_zero, List.set_cons_succ, i64_w, i32_w]; rfl
                       refine pure_ (i := 3) (N := some 218) (v := ?_) (a' := ?_) #[t_,t_,t_,t_,f_,f_,f_,f_,f_,f_,f_,f_,f_,f_,f_,f_,f_,f_] rfl rfl (any_of HT_.out z4_) (fun _ _ _ h => h) (Or.inl ⟨by rfl, ?_⟩) ?_ ?_; rotate_left
                       ·intro w'; go_simp; with_reducible rfl
                       rotate_left
                       ·simp only [Act.put, List.setIfInBounds_toArray, List.set_cons_zero, List.set_cons_succ, i64_w, i32_w]; rfl
                       refine pure_ (i := 4) (N := some 219) (v := ?_) (a' := ?_) #[t_,t_,t_,t_,t_,f_,f_,f_,f_,f_,f_,f_,f_,f_,f_,f_,f_,f_] rfl rfl (any_of HT_.out z4_) (fun _ _ _ h => h) (Or.inl ⟨by rfl, ?_⟩) ?_ ?_; rotate_left
                       ·intro w'; go_simp; with_reducible rfl
                       rotate_left
                       ·simp only [Act.put, List.setIfInBounds_toArray, List.set_cons_zero, List.set_cons_succ, i64_w, i32_w]; rfl
                       refine pure_ (i := 5) (N := some 220) (v := ?_) (a' := ?_) #[t_,t_,t_,t_,t_,t_,f_,f_,f_,f_,f_,f_,f_,f_,f_,f_,f_,f_] rfl rfl (any_of HT_.out z4_) (fun _ _ _ h => h) (Or.inl ⟨by rfl, ?_⟩) ?_ ?_; rotate_left
                       ·intro w'; go_simp; with_reducible rfl
                       rotate_left
                       ·simp only [Act.put, List.setIfInBounds_toArray, List.set_cons_zero, List.set_cons_succ, i64_w, i32_w]; rfl
                       refine pure_ (i := 7) (N := some 222) (v := ?_) (a' := ?_) #[t_,t_,t_,t_,t_,t_,f_,t_,f_,f_,f_,f_,f_,f_,f_,f_,f_,f_] rfl rfl (any_of HT_.out z4_) (fun _ _ _ h => h) (Or.inl ⟨by rfl, ?_⟩) ?_ ?_; rotate_left
                       ·intro w'; go_simp; with_reducible rfl
                       rotate_left
                       ·simp only [Act.put, List.setIfInBounds_toArray, List.set_cons_zero, List.set_cons_succ, i64_w, i32_w]; rfl
                       refine pure_ (i := 8) (N := some 223) (v := ?_) (a' := ?_) #[t_,t_,t_,t_,t_,t_,f_,t_,t_,f_,f_,f_,f_,f_,f_,f_,f_,f_] rfl rfl (any_of HT_.out z4_) (fun _ _ _ h => h) (Or.inl ⟨by rfl, ?_⟩) ?_ ?_; rotate_left
                       ·intro w'; go_simp; with_reducible rfl
                       rotate_left
                       ·simp only [Act.put, List.setIfInBounds_toArray, List.set_cons_zero, List.set_cons_succ, i64_w, i32_w]; rfl
                       refine pure_ (i := 9) (N := some 224) (v := ?_) (a' := ?_) #[t_,t_,t_,t_,t_,t_,f_,t_,t_,t_,f_,f_,f_,f_,f_,f_,f_,f_] rfl rfl (any_of HT_.out z4_) (fun _ _ _ h => h) (Or.inl ⟨by rfl, ?_⟩) ?_ ?_; rotate_left
                       ·intro w'; go_simp; with_reducible rfl
                       rotate_left
                       ·simp only [Act.put, List.setIfInBounds_toArray, List.set_cons_zero, List.set_cons_succ, i64_w, i32_w]; rfl
                       refine pure_ (i := 10) (N := some 225) (v := ?_) (a' := ?_) #[t_,t_,t_,t_,t_,t_,f_,t_,t_,t_,t_,f_,f_,f_,f_,f_,f_,f_] rfl rfl (any_of HT_.out z4_) (fun _ _ _ h => h) (Or.inl ⟨by rfl, ?_⟩) ?_ ?_; rotate_left
                       ·intro w'; go_simp; with_reducible rfl
                       rotate_left
                       ·simp only [Act.put, List.setIfInBounds_toArray, List.set_cons_zero, List.set_cons_succ, i64_w, i32_w]; rfl
                       refine take_ (i := 6) (N := some 221) (v := ?_) (a' := ?_) #[t_,t_,t_,t_,t_,t_,t_,t_,t_,t_,t_,f_,f_,f_,f_,f_,f_,f_] rfl rfl (take_ofW HT_.out HW_.out z4_) (fun _ _ _ h => h) (Or.inl ⟨by rfl, ?_⟩) hHeld ?_ ?_; rotate_left
                       ·rintro w' ⟨s0, s1, s2, s3, s4, s5⟩; go_simp; with_reducible rfl
                       rotate_left
                       ·simp only [Act.put, List.setIfInBounds_toArray, List.set_cons_zero, List.set_cons_succ, i64_w, i32_w]; rfl
                       refine take_ (i := 11) (N := some 226) (v := ?_) (a' := ?_) #[t_,t_,t_,t_,t_,t_,t_,t_,t_,t_,t_,t_,f_,f_,f_,f_,f_,f_] rfl rfl (take_ofW HT_.out HW_.out z4_) (fun _ _ _ h => h) (Or.inl ⟨by rfl, ?_⟩) hHeld ?_ ?_; rotate_left
                       ·rintro w' ⟨s0, s1, s2, s3, s4, s5⟩; go_simp; with_reducible rfl
                       rotate_left
                       ·simp only [Act.put, List.setIfInBounds_toArray, List.set_cons_zero, List.set_cons_succ, i64_w, i32_w]; rfl
                       refine one_ (i := 12) (N := some 227) #[t_,t_,t_,t_,t_,t_,t_,t_,t_,t_,t_,t_,t_,f_,f_,f_,f_,f_] rfl rfl (one_of HT_.out z4_) (by decide) (fun K hK => ?_); refine goes_ Tryd.func52 z4_ rfl #[.int .i64 t352, .slice Ao15 t353.length co15, .int .i64 ((rd_T77 t368 x27_3).f0), .int .i64 ((rd_T77 t368 x27_3).f1)] (by rfl) rfl rfl z1_ ?_; (with_reducible refine (impl_OwedBetween.calls k3 t352 _ _ t353 ((rd_T77 t368 x27_3).f0) ((rd_T77 t368 x27_3).f1) t408 t409 _ ?side1 ?side2 A135.out).mono ?_); (case side1 => repeat (first | exact (Kd.R_reads' HO_4.out).2.2 | (with_reducible refine Kd.C_alloc ?_ _) | (with_reducible refine Kd.C_drewN ?_ _) | (with_reducible refine Kd.C_drew ?_))); (case side2 => exact (Kd.R_reads' HO_4.out).2.1); rintro e w152 ⟨rfl, hb⟩; have HS0_ := (hb.cell (World.block_lt_of_cell? _ _ (hHeld.1))).trans (hHeld.1); have HS1_ := (hb.cell (World.block_lt_of_cell? _ _ (hHeld.2.1))).trans (hHeld.2.1); have HS2_ := (hb.cell (World.block_lt_of_cell? _ _ (hHeld.2.2.1))).trans (hHeld.2.2.1); have HS3_ := (hb.cell (World.block_lt_of_cell? _ _ (hHeld.2.2.2.1))).trans (hHeld.2.2.2.1); have HS4_ := (hb.cell (World.block_lt_of_cell? _ _ (hHeld.2.2.2.2.1))).trans (hHeld.2.2.2.2.1); have HS5_ := (hb.cell (World.block_lt_of_cell? _ _ (hHeld.2.2.2.2.2))).trans (hHeld.2.2.2.2.2); refine ⟨_, rfl, ?_⟩; have n0_ := Aside0.mk (Kd.R_below z7_ hb); have n1_ := Aside0.mk (Kd.R_below z19_ hb); have n2_ := Aside0.mk (Kd.R_below z15_ hb); have n3_ := Aside0.mk (below_step z0_ hb); clear HO_4; clear HO_11; clear HO_15; clear HB; have HO_4 := n0_; have HO_11 := n1_; have HO_15 := n2_; have HB := n3_; clear n0_ n1_ n2_ n3_; (try clear hb); (try clear hb2); (try clear hk); (try clear hi); refine hK.out _ _ ⟨HS0_, HS1_, HS2_, HS3_, HS4_, HS5_⟩ (fun hHeld => ?_); clear hK K; refine norm_ (a' := ?_) ?_ ?_; rotate_left
                       ·show Act.put _ (some 227) _ = _; simp only [Act.put, List.setIfInBounds_toArray, List.set_cons_zero, List.set_cons_succ, i64_w, i32_w]; rfl
                       refine pure_ (i := 13) (N := some 214) (v := ?_) (a' := ?_) #[t_,t_,t_,t_,t_,t_,t_,t_,t_,t_,t_,t_,t_,t_,f_,f_,f_,f_] rfl rfl (any_of HT_.out z4_) (fun _ _ _ h => h) (Or.inl ⟨by rfl, ?_⟩) ?_ ?_; rotate_left
                       ·intro w'; go_simp; with_reducible rfl
                       rotate_left
                       ·simp only [Act.put, List.setIfInBounds_toArray, List.set_cons_zero, List.set_cons_succ, i64_w, i32_w]; rfl
                       refine pure_ (i := 14) (N := some 228) (v := ?_) (a' := ?_) #[t_,t_,t_,t_,t_,t_,t_,t_,t_,t_,t_,t_,t_,t_,t_,f_,f_,f_] rfl rfl (any_of HT_.out z4_) (fun _ _ _ h => h) (Or.inl ⟨by rfl, ?_⟩) ?_ ?_; rotate_left
                       ·intro w'; go_simp; with_reducible rfl
                       rotate_left
                       ·simp only [Act.put, List.setIfInBounds_toArray, List.set_cons_zero, List.set_cons_succ, i64_w, i32_w]; rfl
                       refine pure_ (i := 15) (N := some 229) (v := ?_) (a' := ?_) #[t_,t_,t_,t_,t_,t_,t_,t_,t_,t_,t_,t_,t_,t_,t_,t_,f_,f_] rfl rfl (any_of HT_.out z4_) (fun _ _ _ h => h) (Or.inl ⟨by rfl, ?_⟩) ?_ ?_; rotate_left
                       ·intro w'; go_simp; with_reducible rfl
                       rotate_left
                       ·simp only [Act.put, List.setIfInBounds_toArray, List.set_cons_zero, List.set_cons_succ, i64_w, i32_w]; rfl
                       refine pure_ (i := 16) (N := some 28) (v := ?_) (a' := ?_) #[t_,t_,t_,t_,t_,t_,t_,t_,t_,t_,t_,t_,t_,t_,t_,t_,t_,f_] rfl rfl (any_of HT_.out z4_) (fun _ _ _ h => h) (Or.inl ⟨by rfl, ?_⟩) ?_ ?_; rotate_left
                       ·intro w'; go_simp; with_reducible rfl
                       rotate_left
                       ·simp only [Act.put, List.setIfInBounds_toArray, List.set_cons_zero, List.set_cons_succ, i64_w, i32_w]; rfl
                       refine pure_ (i := 17) (N := some 29) (v := ?_) (a' := ?_) #[t_,t_,t_,t_,t_,t_,t_,t_,t_,t_,t_,t_,t_,t_,t_,t_,t_,t_] rfl rfl (any_of HT_.out z4_) (fun _ _ _ h => h) (Or.inl ⟨by rfl, ?_⟩) ?_ ?_; rotate_left
                       ·intro w'; go_simp; with_reducible rfl
                       rotate_left
                       ·simp only [Act.put, List.setIfInBounds_toArray, List.set_cons_zero, List.set_cons_succ, i64_w, i32_w]; rfl
                       refine done_ (done_of HT_.out z4_) ?_; (try go_wp2); have n0_ := Aside0.mk (Kd.R_drew HO_4.out); have n1_ := Aside0.mk (Kd.R_drew HO_11.out); have n2_ := Aside0.mk (Kd.R_drew HO_15.out); have n3_ := Aside0.mk (below_drew1 HB.out); clear HO_4; clear HO_11; clear HO_15; clear HB; have HO_4 := n0_; have HO_11 := n1_; have HO_15 := n2_; have HB := n3_; clear n0_ n1_ n2_ n3_; have p410 : 0 ≤ (x27_3 : Int) := of_decide_eq_true z2_; have q410 : x27_3 < (t368.length : Int) := of_decide_eq_true z2_; obtain ⟨ad410, e410, hx410_0, hx410_1, hx410_2⟩ := at_T77 (Kd.R_reads' HO_11.out).2.2 x27_3 p410 q410; obtain rfl : ad406 = ad410 := (by injection e410); replace p410 := eq_true p410; replace q410 := eq_true q410; refine start_ (n := 57) (S := fun w' => w'.cell? (ad406.add ((x27_3).toNat * 3)) = some (.int .i64 ((rd_T77 t368 x27_3).f0)) ∧ w'.cell? ⟨(ad406.add ((x27_3).toNat * 3)).block, (ad406.add ((x27_3).toNat * 3)).off + 1, none⟩ = some (.int .i64 ((rd_T77 t368 x27_3).f1)) ∧ w'.cell? ⟨(ad406.add ((x27_3).toNat * 3)).block, (ad406.add ((x27_3).toNat * 3)).off + 2, none⟩ = some (.int .i64 ((rd_T77 t368 x27_3).f2))) (ds := []) #[f_,f_,f_,f_,f_,f_,f_,f_,f_,f_,f_,f_,f_,f_,f_,f_,f_,f_,f_,f_,f_,f_,f_,f_,f_,f_,f_,f_,f_,f_,f_,f_,f_,f_,f_,f_,f_,f_,f_,f_,f_,f_,f_,f_,f_,f_,f_,f_,f_,f_,f_,f_,f_,f_,f_,f_,f_] z4_ rfl rfl ⟨hx410_0, hx410_1, hx410_2⟩ (fun hHeld => ?_); refine with_tabW laws_FnNets.tab23 laws_FnNets.bits23 (fun HT_ HW_ => ?_); generalize w152.drew = w153 at HO_4 HO_11 HO_15 HB hx410_0 hx410_1 hx410_2 hHeld ⊢; refine pure_ (i := 0) (N := some 230) (v := ?_) (a' := ?_) #[t_,f_,f_,f_,f_,f_,f_,f_,f_,f_,f_,f_,f_,f_,f_,f_,f_,f_,f_,f_,f_,f_,f_,f_,f_,f_,f_,f_,f_,f_,f_,f_,f_,f_,f_,f_,f_,f_,f_,f_,f_,f_,f_,f_,f_,f_,f_,f_,f_,f_,f_,f_,f_,f_,f_,f_,f_] rfl rfl (any_of HT_.out z4_) (fun _ _ _ h => h) (Or.inl ⟨by rfl, ?_⟩) ?_ ?_; rotate_left
                       ·intro w'; go_simp; with_reducible rfl
                       rotate_left
                       ·simp only [Act.put, List.setIfInBounds_toArray, List.set_cons_zero, List.set_cons_succ, i64_w, i32_w]; rfl
                       refine pure_ (i := 1) (N := some 231) (v := ?_) (a' := ?_) #[t_,t_,f_,f_,f_,f_,f_,f_,f_,f_,f_,f_,f_,f_,f_,f_,f_,f_,f_,f_,f_,f_,f_,f_,f_,f_,f_,f_,f_,f_,f_,f_,f_,f_,f_,f_,f_,f_,f_,f_,f_,f_,f_,f_,f_,f_,f_,f_,f_,f_,f_,f_,f_,f_,f_,f_,f_] rfl rfl (any_of HT_.out z4_) (fun _ _ _ h => h) (Or.inl ⟨by rfl, ?_⟩) ?_ ?_; rotate_left
                       ·intro w'; go_simp; with_reducible rfl
                       rotate_left
                       ·simp only [Act.put, List.setIfInBounds_toArray, List.set_cons_zero, List.set_cons_succ, i64_w, i32_w]; rfl
                       refine pure_ (i := 2) (N := some 232) (v := ?_) (a' := ?_) #[t_,t_,t_,f_,f_,f_,f_,f_,f_,f_,f_,f_,f_,f_,f_,f_,f_,f_,f_,f_,f_,f_,f_,f_,f_,f_,f_,f_,f_,f_,f_,f_,f_,f_,f_,f_,f_,f_,f_,f_,f_,f_,f_,f_,f_,f_,f_,f_,f_,f_,f_,f_,f_,f_,f_,f_,f_] rfl rfl (any_of HT_.out z4_) (fun _ _ _ h => h) (Or.inl ⟨by rfl, ?_⟩) ?_ ?_; rotate_left
                       ·intro w'; go_simp; with_reducible rfl
                       rotate_left
                       ·simp only [Act.put, List.setIfInBounds_toArray, List.set_cons_zero, List.set_cons_succ, i64_w, i32_w]; rfl
                       refine pure_ (i := 3) (N := some 233) (v := ?_) (a' := ?_) #[t_,t_,t_,t_,f_,f_,f_,f_,f_,f_,f_,f_,f_,f_,f_,f_,f_,f_,f_,f_,f_,f_,f_,f_,f_,f_,f_,f_,f_,f_,f_,f_,f_,f_,f_,f_,f_,f_,f_,f_,f_,f_,f_,f_,f_,f_,f_,f_,f_,f_,f_,f_,f_,f_,f_,f_,f_] rfl rfl (any_of HT_.out z4_) (fun _ _ _ h => h) (Or.inl ⟨by rfl, ?_⟩) ?_ ?_; rotate_left
                       ·intro w'; go_simp; with_reducible rfl
                       rotate_left
                       ·simp only [Act.put, List.setIfInBounds_toArray, List.set_cons_zero, List.set_cons_succ, i64_w, i32_w]; rfl
                       refine pure_ (i := 4) (N := some 234) (v := ?_) (a' := ?_) #[t_,t_,t_,t_,t_,f_,f_,f_,f_,f_,f_,f_,f_,f_,f_,f_,f_,f_,f_,f_,f_,f_,f_,f_,f_,f_,f_,f_,f_,f_,f_,f_,f_,f_,f_,f_,f_,f_,f_,f_,f_,f_,f_,f_,f_,f_,f_,f_,f_,f_,f_,f_,f_,f_,f_,f_,f_] rfl rfl (any_of HT_.out z4_) (fun _ _ _ h => h) (Or.inl ⟨by rfl, ?_⟩) ?_ ?_; rotate_left
                       ·intro w'; go_simp; with_reducible rfl
                       rotate_left
                       ·simp only [Act.put, List.setIfInBounds_toArray, List.set_cons_zero, List.set_cons_succ, i64_w, i32_w]; rfl
                       refine pure_ (i := 5) (N := some 235) (v := ?_) (a' := ?_) #[t_,t_,t_,t_,t_,t_,f_,f_,f_,f_,f_,f_,f_,f_,f_,f_,f_,f_,f_,f_,f_,f_,f_,f_,f_,f_,f_,f_,f_,f_,f_,f_,f_,f_,f_,f_,f_,f_,f_,f_,f_,f_,f_,f_,f_,f_,f_,f_,f_,f_,f_,f_,f_,f_,f_,f_,f_] rfl rfl (any_of HT_.out z4_) (fun _ _ _ h => h) (Or.inl ⟨by rfl, ?_⟩) ?_ ?_; rotate_left
                       ·intro w'; go_simp; with_reducible rfl
                       rotate_left
                       ·simp only [Act.put, List.setIfInBounds_toArray, List.set_cons_zero, List.set_cons_succ, i64_w, i32_w]; rfl
                       refine pure_ (i := 6) (N := some 236) (v := ?_) (a' := ?_) #[t_,t_,t_,t_,t_,t_,t_,f_,f_,f_,f_,f_,f_,f_,f_,f_,f_,f_,f_,f_,f_,f_,f_,f_,f_,f_,f_,f_,f_,f_,f_,f_,f_,f_,f_,f_,f_,f_,f_,f_,f_,f_,f_,f_,f_,f_,f_,f_,f_,f_,f_,f_,f_,f_,f_,f_,f_] rfl rfl (any_of HT_.out z4_) (fun _ _ _ h => h) (Or.inl ⟨by rfl, ?_⟩) ?_ ?_; rotate_left
                       ·intro w'; go_simp; with_reducible rfl
                       rotate_left
                       ·simp only [Act.put, List.setIfInBounds_toArray, List.set_cons_zero, List.set_cons_succ, i64_w, i32_w]; rfl
                       refine pure_ (i := 7) (N := some 237) (v := ?_) (a' := ?_) #[t_,t_,t_,t_,t_,t_,t_,t_,f_,f_,f_,f_,f_,f_,f_,f_,f_,f_,f_,f_,f_,f_,f_,f_,f_,f_,f_,f_,f_,f_,f_,f_,f_,f_,f_,f_,f_,f_,f_,f_,f_,f_,f_,f_,f_,f_,f_,f_,f_,f_,f_,f_,f_,f_,f_,f_,f_] rfl rfl (any_of HT_.out z4_) (fun _ _ _ h => h) (Or.inl ⟨by rfl, ?_⟩) ?_ ?_; rotate_left
                       ·intro w'; go_simp; with_reducible rfl
                       rotate_left
                       ·simp only [Act.put, List.setIfInBounds_toArray, List.set_cons_zero, List.set_cons_succ, i64_w, i32_w]; rfl
                       refine take_ (i := 8) (N := some 238) (v := ?_) (a' := ?_) #[t_,t_,t_,t_,t_,t_,t_,t_,t_,f_,f_,f_,f_,f_,f_,f_,f_,f_,f_,f_,f_,f_,f_,f_,f_,f_,f_,f_,f_,f_,f_,f_,f_,f_,f_,f_,f_,f_,f_,f_,f_,f_,f_,f_,f_,f_,f_,f_,f_,f_,f_,f_,f_,f_,f_,f_,f_] rfl rfl (take_ofW HT_.out HW_.out z4_) (fun _ _ _ h => h) (Or.inl ⟨by rfl, ?_⟩) hHeld ?_ ?_; rotate_left
                       ·rintro w' ⟨s0, s1, s2⟩; go_simp; with_reducible rfl
                       rotate_left
                       ·simp only [Act.put, List.setIfInBounds_toArray, List.set_cons_zero, List.set_cons_succ, i64_w, i32_w]; rfl
                       refine pure_ (i := 9) (N := some 239) (v := ?_) (a' := ?_) #[t_,t_,t_,t_,t_,t_,t_,t_,t_,t_,f_,f_,f_,f_,f_,f_,f_,f_,f_,f_,f_,f_,f_,f_,f_,f_,f_,f_,f_,f_,f_,f_,f_,f_,f_,f_,f_,f_,f_,f_,f_,f_,f_,f_,f_,f_,f_,f_,f_,f_,f_,f_,f_,f_,f_,f_,f_] rfl rfl (any_of HT_.out z4_) (fun _ _ _ h => h) (Or.inl ⟨by rfl, ?_⟩) ?_ ?_; rotate_left
                       ·intro w'; go_simp; with_reducible rfl
                       rotate_left
                       ·simp only [Act.put, List.setIfInBounds_toArray, List.set_cons_zero, List.set_cons_succ, i64_w, i32_w]; rfl
                       refine pure_ (i := 10) (N := some 240) (v := ?_) (a' := ?_) #[t_,t_,t_,t_,t_,t_,t_,t_,t_,t_,t_,f_,f_,f_,f_,f_,f_,f_,f_,f_,f_,f_,f_,f_,f_,f_,f_,f_,f_,f_,f_,f_,f_,f_,f_,f_,f_,f_,f_,f_,f_,f_,f_,f_,f_,f_,f_,f_,f_,f_,f_,f_,f_,f_,f_,f_,f_] rfl rfl (any_of HT_.out z4_) (fun _ _ _ h => h) (Or.inl ⟨by rfl, ?_⟩) ?_ ?_; rotate_left
                       ·intro w'; go_simp; with_reducible rfl
                       rotate_left
                       ·simp only [Act.put, List.setIfInBounds_toArray, List.set_cons_zero, List.set_cons_succ, i64_w, i32_w]; rfl
                       refine pure_ (i := 11) (N := some 241) (v := ?_) (a' := ?_) #[t_,t_,t_,t_,t_,t_,t_,t_,t_,t_,t_,t_,f_,f_,f_,f_,f_,f_,f_,f_,f_,f_,f_,f_,f_,f_,f_,f_,f_,f_,f_,f_,f_,f_,f_,f_,f_,f_,f_,f_,f_,f_,f_,f_,f_,f_,f_,f_,f_,f_,f_,f_,f_,f_,f_,f_,f_] rfl rfl (any_of HT_.out z4_) (fun _ _ _ h => h) (Or.inl ⟨by rfl, ?_⟩) ?_ ?_; rotate_left
                       ·intro w'; go_simp; with_reducible rfl
                       rotate_left
                       ·simp only [Act.put, List.setIfInBounds_toArray, List.set_cons_zero, List.set_cons_succ, i64_w, i32_w]; rfl
                       refine pure_ (i := 12) (N := some 242) (v := ?_) (a' := ?_) #[t_,t_,t_,t_,t_,t_,t_,t_,t_,t_,t_,t_,t_,f_,f_,f_,f_,f_,f_,f_,f_,f_,f_,f_,f_,f_,f_,f_,f_,f_,f_,f_,f_,f_,f_,f_,f_,f_,f_,f_,f_,f_,f_,f_,f_,f_,f_,f_,f_,f_,f_,f_,f_,f_,f_,f_,f_] rfl rfl (any_of HT_.out z4_) (fun _ _ _ h => h) (Or.inl ⟨by rfl, ?_⟩) ?_ ?_; rotate_left
                       ·intro w'; go_simp; with_reducible rfl
                       rotate_left
                       ·simp only [Act.put, List.setIfInBounds_toArray, List.set_cons_zero, List.set_cons_succ, i64_w, i32_w]; rfl
                       refine pure_ (i := 13) (N := some 243) (v := ?_) (a' := ?_) #[t_,t_,t_,t_,t_,t_,t_,t_,t_,t_,t_,t_,t_,t_,f_,f_,f_,f_,f_,f_,f_,f_,f_,f_,f_,f_,f_,f_,f_,f_,f_,f_,f_,f_,f_,f_,f_,f_,f_,f_,f_,f_,f_,f_,f_,f_,f_,f_,f_,f_,f_,f_,f_,f_,f_,f_,f_] rfl rfl (any_of HT_.out z4_) (fun _ _ _ h => h) (Or.inl ⟨by rfl, ?_⟩) ?_ ?_; rotate_left
                       ·intro w'; go_simp; with_reducible rfl
                       rotate_left
                       ·simp only [Act.put, List.setIfInBounds_toArray, List.set_cons_zero, List.set_cons_succ, i64_w, i32_w]; rfl
                       refine pure_ (i := 14) (N := some 244) (v := ?_) (a' := ?_) #[t_,t_,t_,t_,t_,t_,t_,t_,t_,t_,t_,t_,t_,t_,t_,f_,f_,f_,f_,f_,f_,f_,f_,f_,f_,f_,f_,f_,f_,f_,f_,f_,f_,f_,f_,f_,f_,f_,f_,f_,f_,f_,f_,f_,f_,f_,f_,f_,f_,f_,f_,f_,f_,f_,f_,f_,f_] rfl rfl (any_of HT_.out z4_) (fun _ _ _ h => h) (Or.inl ⟨by rfl, ?_⟩) ?_ ?_; rotate_left
                       ·intro w'; go_simp; with_reducible rfl
                       rotate_left
                       ·simp only [Act.put, List.setIfInBounds_toArray, List.set_cons_zero, List.set_cons_succ, i64_w, i32_w]; rfl
                       refine pure_ (i := 15) (N := some 245) (v := undef) (a' := ?_) #[t_,t_,t_,t_,t_,t_,t_,t_,t_,t_,t_,t_,t_,t_,t_,t_,f_,f_,f_,f_,f_,f_,f_,f_,f_,f_,f_,f_,f_,f_,f_,f_,f_,f_,f_,f_,f_,f_,f_,f_,f_,f_,f_,f_,f_,f_,f_,f_,f_,f_,f_,f_,f_,f_,f_,f_,f_] rfl rfl (any_of HT_.out z4_) (fun _ _ _ h => h) (Or.inr ⟨by rfl, rfl⟩) ?_ ?_; rotate_left
                       ·simp only [Act.put, List.setIfInBounds_toArray, List.set_cons_zero, List.set_cons_succ, i64_w, i32_w]; rfl
                       refine pure_ (i := 16) (N := some 246) (v := undef) (a' := ?_) #[t_,t_,t_,t_,t_,t_,t_,t_,t_,t_,t_,t_,t_,t_,t_,t_,t_,f_,f_,f_,f_,f_,f_,f_,f_,f_,f_,f_,f_,f_,f_,f_,f_,f_,f_,f_,f_,f_,f_,f_,f_,f_,f_,f_,f_,f_,f_,f_,f_,f_,f_,f_,f_,f_,f_,f_,f_] rfl rfl (any_of HT_.out z4_) (fun _ _ _ h => h) (Or.inr ⟨by rfl, rfl⟩) ?_ ?_; rotate_left
                       ·simp only [Act.put, List.setIfInBounds_toArray, List.set_cons_zero, List.set_cons_succ, i64_w, i32_w]; rfl
                       refine pure_ (i := 17) (N := some 247) (v := undef) (a' := ?_) #[t_,t_,t_,t_,t_,t_,t_,t_,t_,t_,t_,t_,t_,t_,t_,t_,t_,t_,f_,f_,f_,f_,f_,f_,f_,f_,f_,f_,f_,f_,f_,f_,f_,f_,f_,f_,f_,f_,f_,f_,f_,f_,f_,f_,f_,f_,f_,f_,f_,f_,f_,f_,f_,f_,f_,f_,f_] rfl rfl (any_of HT_.out z4_) (fun _ _ _ h => h) (Or.inr ⟨by rfl, rfl⟩) ?_ ?_; rotate_left
                       ·simp only [Act.put, List.setIfInBounds_toArray, List.set_cons_zero, List.set_cons_succ, i64_w, i32_w]; rfl
                       refine pure_ (i := 18) (N := some 248) (v := undef) (a' := ?_) #[t_,t_,t_,t_,t_,t_,t_,t_,t_,t_,t_,t_,t_,t_,t_,t_,t_,t_,t_,f_,f_,f_,f_,f_,f_,f_,f_,f_,f_,f_,f_,f_,f_,f_,f_,f_,f_,f_,f_,f_,f_,f_,f_,f_,f_,f_,f_,f_,f_,f_,f_,f_,f_,f_,f_,f_,f_] rfl rfl (any_of HT_.out z4_) (fun _ _ _ h => h) (Or.inr ⟨by rfl, rfl⟩) ?_ ?_; rotate_left
                       ·simp only [Act.put, List.setIfInBounds_toArray, List.set_cons_zero, List.set_cons_succ, i64_w, i32_w]; rfl
                       refine pure_ (i := 19) (N := some 249) (v := undef) (a' := ?_) #[t_,t_,t_,t_,t_,t_,t_,t_,t_,t_,t_,t_,t_,t_,t_,t_,t_,t_,t_,t_,f_,f_,f_,f_,f_,f_,f_,f_,f_,f_,f_,f_,f_,f_,f_,f_,f_,f_,f_,f_,f_,f_,f_,f_,f_,f_,f_,f_,f_,f_,f_,f_,f_,f_,f_,f_,f_] rfl rfl (any_of HT_.out z4_) (fun _ _ _ h => h) (Or.inr ⟨by rfl, rfl⟩) ?_ ?_; rotate_left
                       ·simp only [Act.put, List.setIfInBounds_toArray, List.set_cons_zero, List.set_cons_succ, i64_w, i32_w]; rfl
                       refine pure_ (i := 20) (N := some 250) (v := undef) (a' := ?_) #[t_,t_,t_,t_,t_,t_,t_,t_,t_,t_,t_,t_,t_,t_,t_,t_,t_,t_,t_,t_,t_,f_,f_,f_,f_,f_,f_,f_,f_,f_,f_,f_,f_,f_,f_,f_,f_,f_,f_,f_,f_,f_,f_,f_,f_,f_,f_,f_,f_,f_,f_,f_,f_,f_,f_,f_,f_] rfl rfl (any_of HT_.out z4_) (fun _ _ _ h => h) (Or.inr ⟨by rfl, rfl⟩) ?_ ?_; rotate_left
                       ·simp only [Act.put, List.setIfInBounds_toArray, List.set_cons_zero, List.set_cons_succ, i64_w, i32_w]; rfl
                       refine pure_ (i := 21) (N := some 251) (v := undef) (a' := ?_) #[t_,t_,t_,t_,t_,t_,t_,t_,t_,t_,t_,t_,t_,t_,t_,t_,t_,t_,t_,t_,t_,t_,f_,f_,f_,f_,f_,f_,f_,f_,f_,f_,f_,f_,f_,f_,f_,f_,f_,f_,f_,f_,f_,f_,f_,f_,f_,f_,f_,f_,f_,f_,f_,f_,f_,f_,f_] rfl rfl (any_of HT_.out z4_) (fun _ _ _ h => h) (Or.inr ⟨by rfl, rfl⟩) ?_ ?_; rotate_left
                       ·simp only [Act.put, List.setIfInBounds_toArray, List.set_cons_zero, List.set_cons_succ, i64_w, i32_w]; rfl
                       refine pure_ (i := 22) (N := some 252) (v := undef) (a' := ?_) #[t_,t_,t_,t_,t_,t_,t_,t_,t_,t_,t_,t_,t_,t_,t_,t_,t_,t_,t_,t_,t_,t_,t_,f_,f_,f_,f_,f_,f_,f_,f_,f_,f_,f_,f_,f_,f_,f_,f_,f_,f_,f_,f_,f_,f_,f_,f_,f_,f_,f_,f_,f_,f_,f_,f_,f_,f_] rfl rfl (any_of HT_.out z4_) (fun _ _ _ h => h) (Or.inr ⟨by rfl, rfl⟩) ?_ ?_; rotate_left
                       ·simp only [Act.put, List.setIfInBounds_toArray, List.set_cons_zero, List.set_cons_succ, i64_w, i32_w]; rfl
                       refine pure_ (i := 23) (N := some 253) (v := undef) (a' := ?_) #[t_,t_,t_,t_,t_,t_,t_,t_,t_,t_,t_,t_,t_,t_,t_,t_,t_,t_,t_,t_,t_,t_,t_,t_,f_,f_,f_,f_,f_,f_,f_,f_,f_,f_,f_,f_,f_,f_,f_,f_,f_,f_,f_,f_,f_,f_,f_,f_,f_,f_,f_,f_,f_,f_,f_,f_,f_] rfl rfl (any_of HT_.out z4_) (fun _ _ _ h => h) (Or.inr ⟨by rfl, rfl⟩) ?_ ?_; rotate_left
                       ·simp only [Act.put, List.setIfInBounds_toArray, List.set_cons_zero, List.set_cons_succ, i64_w, i32_w]; rfl
                       refine pure_ (i := 24) (N := some 254) (v := undef) (a' := ?_) #[t_,t_,t_,t_,t_,t_,t_,t_,t_,t_,t_,t_,t_,t_,t_,t_,t_,t_,t_,t_,t_,t_,t_,t_,t_,f_,f_,f_,f_,f_,f_,f_,f_,f_,f_,f_,f_,f_,f_,f_,f_,f_,f_,f_,f_,f_,f_,f_,f_,f_,f_,f_,f_,f_,f_,f_,f_] rfl rfl (any_of HT_.out z4_) (fun _ _ _ h => h) (Or.inr ⟨by rfl, rfl⟩) ?_ ?_; rotate_left
                       ·simp only [Act.put, List.setIfInBounds_toArray, List.set_cons_zero, List.set_cons_succ, i64_w, i32_w]; rfl
                       refine pure_ (i := 25) (N := some 255) (v := undef) (a' := ?_) #[t_,t_,t_,t_,t_,t_,t_,t_,t_,t_,t_,t_,t_,t_,t_,t_,t_,t_,t_,t_,t_,t_,t_,t_,t_,t_,f_,f_,f_,f_,f_,f_,f_,f_,f_,f_,f_,f_,f_,f_,f_,f_,f_,f_,f_,f_,f_,f_,f_,f_,f_,f_,f_,f_,f_,f_,f_] rfl rfl (any_of HT_.out z4_) (fun _ _ _ h => h) (Or.inr ⟨by rfl, rfl⟩) ?_ ?_; rotate_left
                       ·simp only [Act.put, List.setIfInBounds_toArray, List.set_cons_zero, List.set_cons_succ, i64_w, i32_w]; rfl
                       refine pure_ (i := 26) (N := some 256) (v := undef) (a' := ?_) #[t_,t_,t_,t_,t_,t_,t_,t_,t_,t_,t_,t_,t_,t_,t_,t_,t_,t_,t_,t_,t_,t_,t_,t_,t_,t_,t_,f_,f_,f_,f_,f_,f_,f_,f_,f_,f_,f_,f_,f_,f_,f_,f_,f_,f_,f_,f_,f_,f_,f_,f_,f_,f_,f_,f_,f_,f_] rfl rfl (any_of HT_.out z4_) (fun _ _ _ h => h) (Or.inr ⟨by rfl, rfl⟩) ?_ ?_; rotate_left
                       ·simp only [Act.put, List.setIfInBounds_toArray, List.set_cons_zero, List.set_cons_succ, i64_w, i32_w]; rfl
                       refine pure_ (i := 27) (N := some 257) (v := undef) (a' := ?_) #[t_,t_,t_,t_,t_,t_,t_,t_,t_,t_,t_,t_,t_,t_,t_,t_,t_,t_,t_,t_,t_,t_,t_,t_,t_,t_,t_,t_,f_,f_,f_,f_,f_,f_,f_,f_,f_,f_,f_,f_,f_,f_,f_,f_,f_,f_,f_,f_,f_,f_,f_,f_,f_,f_,f_,f_,f_] rfl rfl (any_of HT_.out z4_) (fun _ _ _ h => h) (Or.inr ⟨by rfl, rfl⟩) ?_ ?_; rotate_left
                       ·simp only [Act.put, List.setIfInBounds_toArray, List.set_cons_zero, List.set_cons_succ, i64_w, i32_w]; rfl
                       refine pure_ (i := 28) (N := some 258) (v := undef) (a' := ?_) #[t_,t_,t_,t_,t_,t_,t_,t_,t_,t_,t_,t_,t_,t_,t_,t_,t_,t_,t_,t_,t_,t_,t_,t_,t_,t_,t_,t_,t_,f_,f_,f_,f_,f_,f_,f_,f_,f_,f_,f_,f_,f_,f_,f_,f_,f_,f_,f_,f_,f_,f_,f_,f_,f_,f_,f_,f_] rfl rfl (any_of HT_.out z4_) (fun _ _ _ h => h) (Or.inr ⟨by rfl, rfl⟩) ?_ ?_; rotate_left
                       ·simp only [Act.put, List.setIfInBounds_toArray, List.set_cons_zero, List.set_cons_succ, i64_w, i32_w]; rfl
                       refine pure_ (i := 29) (N := some 259) (v := undef) (a' := ?_) #[t_,t_,t_,t_,t_,t_,t_,t_,t_,t_,t_,t_,t_,t_,t_,t_,t_,t_,t_,t_,t_,t_,t_,t_,t_,t_,t_,t_,t_,t_,f_,f_,f_,f_,f_,f_,f_,f_,f_,f_,f_,f_,f_,f_,f_,f_,f_,f_,f_,f_,f_,f_,f_,f_,f_,f_,f_] rfl rfl (any_of HT_.out z4_) (fun _ _ _ h => h) (Or.inr ⟨by rfl, rfl⟩) ?_ ?_; rotate_left
                       ·simp only [Act.put, List.setIfInBounds_toArray, List.set_cons_zero, List.set_cons_succ, i64_w, i32_w]; rfl
                       refine pure_ (i := 30) (N := some 260) (v := undef) (a' := ?_) #[t_,t_,t_,t_,t_,t_,t_,t_,t_,t_,t_,t_,t_,t_,t_,t_,t_,t_,t_,t_,t_,t_,t_,t_,t_,t_,t_,t_,t_,t_,t_,f_,f_,f_,f_,f_,f_,f_,f_,f_,f_,f_,f_,f_,f_,f_,f_,f_,f_,f_,f_,f_,f_,f_,f_,f_,f_] rfl rfl (any_of HT_.out z4_) (fun _ _ _ h => h) (Or.inr ⟨by rfl, rfl⟩) ?_ ?_; rotate_left
                       ·simp only [Act.put, List.setIfInBounds_toArray, List.set_cons_zero, List.set_cons_succ, i64_w, i32_w]; rfl
                       refine pure_ (i := 31) (N := some 261) (v := undef) (a' := ?_) #[t_,t_,t_,t_,t_,t_,t_,t_,t_,t_,t_,t_,t_,t_,t_,t_,t_,t_,t_,t_,t_,t_,t_,t_,t_,t_,t_,t_,t_,t_,t_,t_,f_,f_,f_,f_,f_,f_,f_,f_,f_,f_,f_,f_,f_,f_,f_,f_,f_,f_,f_,f_,f_,f_,f_,f_,f_] rfl rfl (any_of HT_.out z4_) (fun _ _ _ h => h) (Or.inr ⟨by rfl, rfl⟩) ?_ ?_; rotate_left
                       ·simp only [Act.put, List.setIfInBounds_toArray, List.set_cons_zero, List.set_cons_succ, i64_w, i32_w]; rfl
                       refine pure_ (i := 32) (N := some 262) (v := undef) (a' := ?_) #[t_,t_,t_,t_,t_,t_,t_,t_,t_,t_,t_,t_,t_,t_,t_,t_,t_,t_,t_,t_,t_,t_,t_,t_,t_,t_,t_,t_,t_,t_,t_,t_,t_,f_,f_,f_,f_,f_,f_,f_,f_,f_,f_,f_,f_,f_,f_,f_,f_,f_,f_,f_,f_,f_,f_,f_,f_] rfl rfl (any_of HT_.out z4_) (fun _ _ _ h => h) (Or.inr ⟨by rfl, rfl⟩) ?_ ?_; rotate_left
                       ·simp only [Act.put, List.setIfInBounds_toArray, List.set_cons_zero, List.set_cons_succ, i64_w, i32_w]; rfl
                       refine pure_ (i := 33) (N := some 263) (v := undef) (a' := ?_) #[t_,t_,t_,t_,t_,t_,t_,t_,t_,t_,t_,t_,t_,t_,t_,t_,t_,t_,t_,t_,t_,t_,t_,t_,t_,t_,t_,t_,t_,t_,t_,t_,t_,t_,f_,f_,f_,f_,f_,f_,f_,f_,f_,f_,f_,f_,f_,f_,f_,f_,f_,f_,f_,f_,f_,f_,f_] rfl rfl (any_of HT_.out z4_) (fun _ _ _ h => h) (Or.inr ⟨by rfl, rfl⟩) ?_ ?_; rotate_left
                       ·simp only [Act.put, List.setIfInBounds_toArray, List.set_cons_zero, List.set_cons_succ, i64_w, i32_w]; rfl
                       refine pure_ (i := 34) (N := some 264) (v := undef) (a' := ?_) #[t_,t_,t_,t_,t_,t_,t_,t_,t_,t_,t_,t_,t_,t_,t_,t_,t_,t_,t_,t_,t_,t_,t_,t_,t_,t_,t_,t_,t_,t_,t_,t_,t_,t_,t_,f_,f_,f_,f_,f_,f_,f_,f_,f_,f_,f_,f_,f_,f_,f_,f_,f_,f_,f_,f_,f_,f_] rfl rfl (any_of HT_.out z4_) (fun _ _ _ h => h) (Or.inr ⟨by rfl, rfl⟩) ?_ ?_; rotate_left
                       ·simp only [Act.put, List.setIfInBounds_toArray, List.set_cons_zero, List.set_cons_succ, i64_w, i32_w]; rfl
                       refine pure_ (i := 35) (N := some 265) (v := undef) (a' := ?_) #[t_,t_,t_,t_,t_,t_,t_,t_,t_,t_,t_,t_,t_,t_,t_,t_,t_,t_,t_,t_,t_,t_,t_,t_,t_,t_,t_,t_,t_,t_,t_,t_,t_,t_,t_,t_,f_,f_,f_,f_,f_,f_,f_,f_,f_,f_,f_,f_,f_,f_,f_,f_,f_,f_,f_,f_,f_] rfl rfl (any_of HT_.out z4_) (fun _ _ _ h => h) (Or.inr ⟨by rfl, rfl⟩) ?_ ?_; rotate_left
                       ·simp only [Act.put, List.setIfInBounds_toArray, List.set_cons_zero, List.set_cons_succ, i64_w, i32_w]; rfl
                       refine pure_ (i := 36) (N := some 266) (v := undef) (a' := ?_) #[t_,t_,t_,t_,t_,t_,t_,t_,t_,t_,t_,t_,t_,t_,t_,t_,t_,t_,t_,t_,t_,t_,t_,t_,t_,t_,t_,t_,t_,t_,t_,t_,t_,t_,t_,t_,t_,f_,f_,f_,f_,f_,f_,f_,f_,f_,f_,f_,f_,f_,f_,f_,f_,f_,f_,f_,f_] rfl rfl (any_of HT_.out z4_) (fun _ _ _ h => h) (Or.inr ⟨by rfl, rfl⟩) ?_ ?_; rotate_left
                       ·simp only [Act.put, List.setIfInBounds_toArray, List.set_cons_zero, List.set_cons_succ, i64_w, i32_w]; rfl
                       refine pure_ (i := 37) (N := some 267) (v := undef) (a' := ?_) #[t_,t_,t_,t_,t_,t_,t_,t_,t_,t_,t_,t_,t_,t_,t_,t_,t_,t_,t_,t_,t_,t_,t_,t_,t_,t_,t_,t_,t_,t_,t_,t_,t_,t_,t_,t_,t_,t_,f_,f_,f_,f_,f_,f_,f_,f_,f_,f_,f_,f_,f_,f_,f_,f_,f_,f_,f_] rfl rfl (any_of HT_.out z4_) (fun _ _ _ h => h) (Or.inr ⟨by rfl, rfl⟩) ?_ ?_; rotate_left
                       ·simp only [Act.put, List.setIfInBounds_toArray, List.set_cons_zero, List.set_cons_succ, i64_w, i32_w]; rfl
                       refine pure_ (i := 38) (N := some 268) (v := undef) (a' := ?_) #[t_,t_,t_,t_,t_,t_,t_,t_,t_,t_,t_,t_,t_,t_,t_,t_,t_,t_,t_,t_,t_,t_,t_,t_,t_,t_,t_,t_,t_,t_,t_,t_,t_,t_,t_,t_,t_,t_,t_,f_,f_,f_,f_,f_,f_,f_,f_,f_,f_,f_,f_,f_,f_,f_,f_,f_,f_] rfl rfl (any_of HT_.out z4_) (fun _ _ _ h => h) (Or.inr ⟨by rfl, rfl⟩) ?_ ?_; rotate_left
                       ·simp only [Act.put, List.setIfInBounds_toArray, List.set_cons_zero, List.set_cons_succ, i64_w, i32_w]; rfl
                       refine pure_ (i := 39) (N := some 269) (v := undef) (a' := ?_) #[t_,t_,t_,t_,t_,t_,t_,t_,t_,t_,t_,t_,t_,t_,t_,t_,t_,t_,t_,t_,t_,t_,t_,t_,t_,t_,t_,t_,t_,t_,t_,t_,t_,t_,t_,t_,t_,t_,t_,t_,f_,f_,f_,f_,f_,f_,f_,f_,f_,f_,f_,f_,f_,f_,f_,f_,f_] rfl rfl (any_of HT_.out z4_) (fun _ _ _ h => h) (Or.inr ⟨by rfl, rfl⟩) ?_ ?_; rotate_left
                       ·simp only [Act.put, List.setIfInBounds_toArray, List.set_cons_zero, List.set_cons_succ, i64_w, i32_w]; rfl
                       refine pure_ (i := 40) (N := some 270) (v := undef) (a' := ?_) #[t_,t_,t_,t_,t_,t_,t_,t_,t_,t_,t_,t_,t_,t_,t_,t_,t_,t_,t_,t_,t_,t_,t_,t_,t_,t_,t_,t_,t_,t_,t_,t_,t_,t_,t_,t_,t_,t_,t_,t_,t_,f_,f_,f_,f_,f_,f_,f_,f_,f_,f_,f_,f_,f_,f_,f_,f_] rfl rfl (any_of HT_.out z4_) (fun _ _ _ h => h) (Or.inr ⟨by rfl, rfl⟩) ?_ ?_; rotate_left
                       ·simp only [Act.put, List.setIfInBounds_toArray, List.set_cons_zero, List.set_cons_succ, i64_w, i32_w]; rfl
                       refine pure_ (i := 41) (N := some 271) (v := undef) (a' := ?_) #[t_,t_,t_,t_,t_,t_,t_,t_,t_,t_,t_,t_,t_,t_,t_,t_,t_,t_,t_,t_,t_,t_,t_,t_,t_,t_,t_,t_,t_,t_,t_,t_,t_,t_,t_,t_,t_,t_,t_,t_,t_,t_,f_,f_,f_,f_,f_,f_,f_,f_,f_,f_,f_,f_,f_,f_,f_] rfl rfl (any_of HT_.out z4_) (fun _ _ _ h => h) (Or.inr ⟨by rfl, rfl⟩) ?_ ?_; rotate_left
                       ·simp only [Act.put, List.setIfInBounds_toArray, List.set_cons_zero, List.set_cons_succ, i64_w, i32_w]; rfl
                       refine pure_ (i := 42) (N := some 272) (v := undef) (a' := ?_) #[t_,t_,t_,t_,t_,t_,t_,t_,t_,t_,t_,t_,t_,t_,t_,t_,t_,t_,t_,t_,t_,t_,t_,t_,t_,t_,t_,t_,t_,t_,t_,t_,t_,t_,t_,t_,t_,t_,t_,t_,t_,t_,t_,f_,f_,f_,f_,f_,f_,f_,f_,f_,f_,f_,f_,f_,f_] rfl rfl (any_of HT_.out z4_) (fun _ _ _ h => h) (Or.inr ⟨by rfl, rfl⟩) ?_ ?_; rotate_left
                       ·simp only [Act.put, List.setIfInBounds_toArray, List.set_cons_zero, List.set_cons_succ, i64_w, i32_w]; rfl
                       refine pure_ (i := 43) (N := some 273) (v := undef) (a' := ?_) #[t_,t_,t_,t_,t_,t_,t_,t_,t_,t_,t_,t_,t_,t_,t_,t_,t_,t_,t_,t_,t_,t_,t_,t_,t_,t_,t_,t_,t_,t_,t_,t_,t_,t_,t_,t_,t_,t_,t_,t_,t_,t_,t_,t_,f_,f_,f_,f_,f_,f_,f_,f_,f_,f_,f_,f_,f_] rfl rfl (any_of HT_.out z4_) (fun _ _ _ h => h) (Or.inr ⟨by rfl, rfl⟩) ?_ ?_; rotate_left
                       ·simp only [Act.put, List.setIfInBounds_toArray, List.set_cons_zero, List.set_cons_succ, i64_w, i32_w]; rfl
                       refine pure_ (i := 44) (N := some 274) (v := undef) (a' := ?_) #[t_,t_,t_,t_,t_,t_,t_,t_,t_,t_,t_,t_,t_,t_,t_,t_,t_,t_,t_,t_,t_,t_,t_,t_,t_,t_,t_,t_,t_,t_,t_,t_,t_,t_,t_,t_,t_,t_,t_,t_,t_,t_,t_,t_,t_,f_,f_,f_,f_,f_,f_,f_,f_,f_,f_,f_,f_] rfl rfl (any_of HT_.out z4_) (fun _ _ _ h => h) (Or.inr ⟨by rfl, rfl⟩) ?_ ?_; rotate_left
                       ·simp only [Act.put, List.setIfInBounds_toArray, List.set_cons_zero, List.set_cons_succ, i64_w, i32_w]; rfl
                       refine pure_ (i := 45) (N := some 275) (v := undef) (a' := ?_) #[t_,t_,t_,t_,t_,t_,t_,t_,t_,t_,t_,t_,t_,t_,t_,t_,t_,t_,t_,t_,t_,t_,t_,t_,t_,t_,t_,t_,t_,t_,t_,t_,t_,t_,t_,t_,t_,t_,t_,t_,t_,t_,t_,t_,t_,t_,f_,f_,f_,f_,f_,f_,f_,f_,f_,f_,f_] rfl rfl (any_of HT_.out z4_) (fun _ _ _ h => h) (Or.inr ⟨by rfl, rfl⟩) ?_ ?_; rotate_left
                       ·simp only [Act.put, List.setIfInBounds_toArray, List.set_cons_zero, List.set_cons_succ, i64_w, i32_w]; rfl
                       refine pure_ (i := 46) (N := some 276) (v := undef) (a' := ?_) #[t_,t_,t_,t_,t_,t_,t_,t_,t_,t_,t_,t_,t_,t_,t_,t_,t_,t_,t_,t_,t_,t_,t_,t_,t_,t_,t_,t_,t_,t_,t_,t_,t_,t_,t_,t_,t_,t_,t_,t_,t_,t_,t_,t_,t_,t_,t_,f_,f_,f_,f_,f_,f_,f_,f_,f_,f_] rfl rfl (any_of HT_.out z4_) (fun _ _ _ h => h) (Or.inr ⟨by rfl, rfl⟩) ?_ ?_; rotate_left
                       ·simp only [Act.put, List.setIfInBounds_toArray, List.set_cons_zero, List.set_cons_succ, i64_w, i32_w]; rfl
                       refine pure_ (i := 47) (N := some 277) (v := undef) (a' := ?_) #[t_,t_,t_,t_,t_,t_,t_,t_,t_,t_,t_,t_,t_,t_,t_,t_,t_,t_,t_,t_,t_,t_,t_,t_,t_,t_,t_,t_,t_,t_,t_,t_,t_,t_,t_,t_,t_,t_,t_,t_,t_,t_,t_,t_,t_,t_,t_,t_,f_,f_,f_,f_,f_,f_,f_,f_,f_] rfl rfl (any_of HT_.out z4_) (fun _ _ _ h => h) (Or.inr ⟨by rfl, rfl⟩) ?_ ?_; rotate_left
                       ·simp only [Act.put, List.setIfInBounds_toArray, List.set_cons_zero, List.set_cons_succ, i64_w, i32_w]; rfl
                       refine pure_ (i := 48) (N := some 278) (v := undef) (a' := ?_) #[t_,t_,t_,t_,t_,t_,t_,t_,t_,t_,t_,t_,t_,t_,t_,t_,t_,t_,t_,t_,t_,t_,t_,t_,t_,t_,t_,t_,t_,t_,t_,t_,t_,t_,t_,t_,t_,t_,t_,t_,t_,t_,t_,t_,t_,t_,t_,t_,t_,f_,f_,f_,f_,f_,f_,f_,f_] rfl rfl (any_of HT_.out z4_) (fun _ _ _ h => h) (Or.inr ⟨by rfl, rfl⟩) ?_ ?_; rotate_left
                       ·simp only [Act.put, List.setIfInBounds_toArray, List.set_cons_zero, List.set_cons_succ, i64_w, i32_w]; rfl
                       refine pure_ (i := 49) (N := some 279) (v := undef) (a' := ?_) #[t_,t_,t_,t_,t_,t_,t_,t_,t_,t_,t_,t_,t_,t_,t_,t_,t_,t_,t_,t_,t_,t_,t_,t_,t_,t_,t_,t_,t_,t_,t_,t_,t_,t_,t_,t_,t_,t_,t_,t_,t_,t_,t_,t_,t_,t_,t_,t_,t_,t_,f_,f_,f_,f_,f_,f_,f_] rfl rfl (any_of HT_.out z4_) (fun _ _ _ h => h) (Or.inr ⟨by rfl, rfl⟩) ?_ ?_; rotate_left
                       ·simp only [Act.put, List.setIfInBounds_toArray, List.set_cons_zero, List.set_cons_succ, i64_w, i32_w]; rfl
                       refine pure_ (i := 50) (N := some 280) (v := undef) (a' := ?_) #[t_,t_,t_,t_,t_,t_,t_,t_,t_,t_,t_,t_,t_,t_,t_,t_,t_,t_,t_,t_,t_,t_,t_,t_,t_,t_,t_,t_,t_,t_,t_,t_,t_,t_,t_,t_,t_,t_,t_,t_,t_,t_,t_,t_,t_,t_,t_,t_,t_,t_,t_,f_,f_,f_,f_,f_,f_] rfl rfl (any_of HT_.out z4_) (fun _ _ _ h => h) (Or.inr ⟨by rfl, rfl⟩) ?_ ?_; rotate_left
                       ·simp only [Act.put, List.setIfInBounds_toArray, List.set_cons_zero, List.set_cons_succ, i64_w, i32_w]; rfl
                       refine pure_ (i := 51) (N := some 281) (v := undef) (a' := ?_) #[t_,t_,t_,t_,t_,t_,t_,t_,t_,t_,t_,t_,t_,t_,t_,t_,t_,t_,t_,t_,t_,t_,t_,t_,t_,t_,t_,t_,t_,t_,t_,t_,t_,t_,t_,t_,t_,t_,t_,t_,t_,t_,t_,t_,t_,t_,t_,t_,t_,t_,t_,t_,f_,f_,f_,f_,f_] rfl rfl (any_of HT_.out z4_) (fun _ _ _ h => h) (Or.inr ⟨by rfl, rfl⟩) ?_ ?_; rotate_left
                       ·simp only [Act.put, List.setIfInBounds_toArray, List.set_cons_zero, List.set_cons_succ, i64_w, i32_w]; rfl
                       refine pure_ (i := 52) (N := some 282) (v := undef) (a' := ?_) #[t_,t_,t_,t_,t_,t_,t_,t_,t_,t_,t_,t_,t_,t_,t_,t_,t_,t_,t_,t_,t_,t_,t_,t_,t_,t_,t_,t_,t_,t_,t_,t_,t_,t_,t_,t_,t_,t_,t_,t_,t_,t_,t_,t_,t_,t_,t_,t_,t_,t_,t_,t_,t_,f_,f_,f_,f_] rfl rfl (any_of HT_.out z4_) (fun _ _ _ h => h) (Or.inr ⟨by rfl, rfl⟩) ?_ ?_; rotate_left
                       ·simp only [Act.put, List.setIfInBounds_toArray, List.set_cons_zero, List.set_cons_succ, i64_w, i32_w]; rfl
                       refine pure_ (i := 53) (N := some 283) (v := undef) (a' := ?_) #[t_,t_,t_,t_,t_,t_,t_,t_,t_,t_,t_,t_,t_,t_,t_,t_,t_,t_,t_,t_,t_,t_,t_,t_,t_,t_,t_,t_,t_,t_,t_,t_,t_,t_,t_,t_,t_,t_,t_,t_,t_,t_,t_,t_,t_,t_,t_,t_,t_,t_,t_,t_,t_,t_,f_,f_,f_] rfl rfl (any_of HT_.out z4_) (fun _ _ _ h => h) (Or.inr ⟨by rfl, rfl⟩) ?_ ?_; rotate_left
                       ·simp only [Act.put, List.setIfInBounds_toArray, List.set_cons_zero, List.set_cons_succ, i64_w, i32_w]; rfl
                       refine pure_ (i := 54) (N := some 284) (v := undef) (a' := ?_) #[t_,t_,t_,t_,t_,t_,t_,t_,t_,t_,t_,t_,t_,t_,t_,t_,t_,t_,t_,t_,t_,t_,t_,t_,t_,t_,t_,t_,t_,t_,t_,t_,t_,t_,t_,t_,t_,t_,t_,t_,t_,t_,t_,t_,t_,t_,t_,t_,t_,t_,t_,t_,t_,t_,t_,f_,f_] rfl rfl (any_of HT_.out z4_) (fun _ _ _ h => h) (Or.inr ⟨by rfl, rfl⟩) ?_ ?_; rotate_left
                       ·simp only [Act.put, List.setIfInBounds_toArray, List.set_cons_zero, List.set_cons_succ, i64_w, i32_w]; rfl
                       refine pure_ (i := 55) (N := some 285) (v := ?_) (a' := ?_) #[t_,t_,t_,t_,t_,t_,t_,t_,t_,t_,t_,t_,t_,t_,t_,t_,t_,t_,t_,t_,t_,t_,t_,t_,t_,t_,t_,t_,t_,t_,t_,t_,t_,t_,t_,t_,t_,t_,t_,t_,t_,t_,t_,t_,t_,t_,t_,t_,t_,t_,t_,t_,t_,t_,t_,t_,f_] rfl rfl (any_of HT_.out z4_) (fun _ _ _ h => h) (Or.inl ⟨by rfl, ?_⟩) ?_ ?_; rotate_left
                       ·intro w'; go_simp; with_reducible rfl
                       rotate_left
                       ·simp only [Act.put, List.setIfInBounds_toArray, List.set_cons_zero, List.set_cons_succ, i64_w, i32_w]; rfl
                       refine pure_ (i := 56) (N := some 286) (v := ?_) (a' := ?_) #[t_,t_,t_,t_,t_,t_,t_,t_,t_,t_,t_,t_,t_,t_,t_,t_,t_,t_,t_,t_,t_,t_,t_,t_,t_,t_,t_,t_,t_,t_,t_,t_,t_,t_,t_,t_,t_,t_,t_,t_,t_,t_,t_,t_,t_,t_,t_,t_,t_,t_,t_,t_,t_,t_,t_,t_,t_] rfl rfl (any_of HT_.out z4_) (fun _ _ _ h => h) (Or.inl ⟨by rfl, ?_⟩) ?_ ?_; rotate_left
                       ·intro w'; go_simp; with_reducible rfl
                       rotate_left
                       ·simp only [Act.put, List.setIfInBounds_toArray, List.set_cons_zero, List.set_cons_succ, i64_w, i32_w]; rfl
                       refine done_ (done_of HT_.out z4_) ?_; (try go_wp2); go_roundg k3
                       case measure => have := HJ12.out; have := HJ102.out; have := HK3.out; omega
                       case rel => exact ⟨(wrap64 (x27_3 + 1)), z5_, H', ⟨by have := HJ12.out; have := HJ102.out; have := HK3.out; omega⟩, ⟨z7_⟩, ⟨z19_⟩, ⟨z15_⟩, ⟨z0_⟩⟩
                   ·rw [if_neg c137] at H; have c137b0 : (t408 == ((rd_T77 t368 x27_3).f2)) = false := beq_eq_false_iff_ne.mpr c137; have c137b1 : (t408 != ((rd_T77 t368 x27_3).f2)) = true := bne_iff_ne.mpr c137
                    as_aux_lemma =>
                      obtain rfl := Option.some.inj H; cases ht
                  ·rw [if_neg c136] at H; have c136b0 : (t409 == 0) = false := beq_eq_false_iff_ne.mpr c136; have c136b1 : (t409 != 0) = true := bne_iff_ne.mpr c136
                   as_aux_lemma =>
                     obtain rfl := Option.some.inj H; cases ht
                 ·rw [if_neg c134] at H; exact absurd H (by simp)
                ·rw [if_neg c133] at H; have c133b0 : decide (x27_3 < (t368.length : Int)) = false := decide_eq_false c133; clear c133; have H' := Aside0.mk H; clear H; go_wp2; go_loopg [30] k3 (fun kq v30 w' => ∃ (x30_4 : Int), v30 = .int .i64 x30_4 ∧ Aside0 (laws_FnNets.l1 kq t352 t376 x30_4 = some r) ∧ Aside0 (kq ≤ k3) ∧ Aside0 (Kd.R k77 77 w' w.heap.size (fun _ => True) (.slice Ao106 t376.length co106) t376) ∧ Aside0 (Below w.heap.size w w'))
                 case atStart => exact ⟨(0), z5_, H', ⟨Nat.le_refl _⟩, ⟨by (with_reducible repeat (first | apply Kd.R_alloc | apply Kd.R_drewN | apply Kd.R_drew)); exact Kd.R_mono HO_15.out (fun _ hk => trivial)⟩, ⟨z0_⟩⟩
                 case round =>
                   clear H'; (try clear c1); (try clear p2); (try clear p4); (try clear q4); (try clear hx4); (try clear c5); (try clear p6); (try clear c13); (try clear c14); (try clear p40); (try clear q40); (try clear hx40); (try clear p41); (try clear q41); (try clear hx41); (try clear c52); (try clear p64); (try clear c133); (try clear c133b0); (try clear c134); (try clear c136); (try clear c136b0); (try clear c136b1); (try clear c137); (try clear c137b0); (try clear c137b1); (try clear c138); (try clear c138b0); (try clear c140); (try clear c141); (try clear hx406_0); (try clear hx406_1); (try clear hx406_2); (try clear hx407_0); (try clear hx407_1); (try clear hx407_2); (try clear hx410_0); (try clear hx410_1); (try clear hx410_2); (try clear p406); (try clear p407); (try clear p410); (try clear q406); (try clear q407); (try clear q410); obtain ⟨x30_4, rfl, HA, HK4, HO_15, HB⟩ := hrel
                   cases gk with
                   | zero => exact absurd HA.out (by simp [laws_FnNets.l1])
                   | succ k4 =>
                     have H := HA.out; clear HA; simp only [laws_FnNets.l1] at H; by_cases c154 : x30_4 < (t376.length : Int)
                     ·rw [if_pos c154] at H; have c154b0 : decide (x30_4 < (t376.length : Int)) = true := decide_eq_true c154; clear c154; by_cases c155 : 0 ≤ x30_4
                      ·rw [if_pos c155] at H; have c155b0 : decide (0 ≤ x30_4) = true := decide_eq_true c155; clear c155; replace H := Option.bind_eq_some_iff.mp H; obtain ⟨⟨t419, t420⟩, A1560, H⟩ := H; replace H : (if t420 = 0 then (if t419 = 0 then (laws_FnNets.l1 k4 t352 t376 (wrap64 (x30_4 + 1))) else (some false)) else (some false)) = some r := H; have A156 := Aside0.mk A1560; clear A1560; by_cases c157 : t420 = 0
                       ·rw [if_pos c157] at H; have c157b0 : (t420 == 0) = true := beq_iff_eq.mpr c157; have c157b1 : (t420 != 0) = false := bne_eq_false_iff_eq.mpr c157; clear c157; by_cases c158 : t419 = 0
                        ·rw [if_pos c158] at H; have c158b0 : (t419 == 0) = true := beq_iff_eq.mpr c158; have c158b1 : (t419 != 0) = false := bne_eq_false_iff_eq.mpr c158; clear c158
                         as_aux_lemma =>
                           have H' := Aside0.mk H; clear H; (try go_wp2); have n0_ := Aside0.mk (Kd.R_drew HO_15.out); have n1_ := Aside0.mk (below_drew1 HB.out); clear HO_15; clear HB; have HO_15 := n0_; have HB := n1_; clear n0_ n1_; have p417 : 0 ≤ (x30_4 : Int) := of_decide_eq_true z2_; have q417 : x30_4 < (t376.length : Int) := of_decide_eq_true z2_; obtain ⟨ad417, e417, hx417_0, hx417_1, hx417_2⟩ := at_T77 (Kd.R_reads' HO_15.out).2.2 x30_4 p417 q417; cases e417; replace p417 := eq_true p417; replace q417 := eq_true q417; have p418 : 0 ≤ (x30_4 : Int) := of_decide_eq_true z2_; have q418 : x30_4 < (t376.length : Int) := of_decide_eq_true z2_; obtain ⟨ad418, e418, hx418_0, hx418_1, hx418_2⟩ := at_T77 (Kd.R_reads' HO_15.out).2.2 x30_4 p418 q418; obtain rfl : ad417 = ad418 := (by injection e418); replace p418 := eq_true p418; replace q418 := eq_true q418; refine start_ (n := 18) (S := fun w' => w'.cell? (ad417.add ((x30_4).toNat * 3)) = some (.int .i64 ((rd_T77 t376 x30_4).f0)) ∧ w'.cell? ⟨(ad417.add ((x30_4).toNat * 3)).block, (ad417.add ((x30_4).toNat * 3)).off + 1, none⟩ = some (.int .i64 ((rd_T77 t376 x30_4).f1)) ∧ w'.cell? ⟨(ad417.add ((x30_4).toNat * 3)).block, (ad417.add ((x30_4).toNat * 3)).off + 2, none⟩ = some (.int .i64 ((rd_T77 t376 x30_4).f2)) ∧ w'.cell? (ad417.add ((x30_4).toNat * 3)) = some (.int .i64 ((rd_T77 t376 x30_4).f0)) ∧ w'.cell? ⟨(ad417.add ((x30_4).toNat * 3)).block, (ad417.add ((x30_4).toNat * 3)).off + 1, none⟩ = some (.int .i64 ((rd_T77 t376 x30_4).f1)) ∧ w'.cell? ⟨(ad417.add ((x30_4).toNat * 3)).block, (ad417.add ((x30_4).toNat * 3)).off + 2, none⟩ = some (.int .i64 ((rd_T77 t376 x30_4).f2))) (ds := []) #[f_,f_,f_,f_,f_,f_,f_,f_,f_,f_,f_,f_,f_,f_,f_,f_,f_,f_] z4_ rfl rfl ⟨hx417_0, hx417_1, hx417_2, hx418_0, hx418_1, hx418_2⟩ (fun hHeld => ?_); refine with_tabW laws_FnNets.tab28 laws_FnNets.bits28 (fun HT_ HW_ => ?_); generalize wr.drew = w159 at HO_15 HB hx417_0 hx417_1 hx417_2 hx418_0 hx418_1 hx418_2 hHeld ⊢; refine pure_ (i := 0) (N := some 294) (v := ?_) (a' := ?_) #[t_,f_,f_,f_,f_,f_,f_,f_,f_,f_,f_,f_,f_,f_,f_,f_,f_,f_] rfl rfl (any_of HT_.out z4_) (fun _ _ _ h => h) (Or.inl ⟨by rfl, ?_⟩) ?_ ?_; rotate_left
                           ·intro w'; go_simp; with_reducible rfl
                           rotate_left
                           ·simp only [Act.put, List.setIfInBounds_toArray, List.set_cons_zero, List.set_cons_succ, i64_w, i32_w]; rfl
                           refine pure_ (i := 1) (N := some 295) (v := ?_) (a' := ?_) #[t_,t_,f_,f_,f_,f_,f_,f_,f_,f_,f_,f_,f_,f_,f_,f_,f_,f_] rfl rfl (any_of HT_.out z4_) (fun _ _ _ h => h) (Or.inl ⟨by rfl, ?_⟩) ?_ ?_; rotate_left
                           ·intro w'; go_simp; with_reducible rfl
                           rotate_left
                           ·simp only [Act.put, List.setIfInBounds_toArray, List.set_cons_zero, List.set_cons_succ, i64_w, i32_w]; rfl
                           refine pure_ (i := 2) (N := some 296) (v := ?_) (a' := ?_) #[t_,t_,t_,f_,f_,f_,f_,f_,f_,f_,f_,f_,f_,f_,f_,f_,f_,f_] rfl rfl (any_of HT_.out z4_) (fun _ _ _ h => h) (Or.inl ⟨by rfl, ?_⟩) ?_ ?_; rotate_left
                           ·intro w'; go_simp; with_reducible rfl
                           rotate_left
                           ·simp only [Act.put, List.setIfInBounds_toArray, List.set_cons_zero, List.set_cons_succ, i64_w, i32_w]; rfl
                           refine pure_ (i := 3) (N := some 297) (v := ?_) (a' := ?_) #[t_,t_,t_,t_,f_,f_,f_,f_,f_,f_,f_,f_,f_,f_,f_,f_,f_,f_] rfl rfl (any_of HT_.out z4_) (fun _ _ _ h => h) (Or.inl ⟨by rfl, ?_⟩) ?_ ?_; rotate_left
                           ·intro w'; go_simp; with_reducible rfl
                           rotate_left
                           ·simp only [Act.put, List.setIfInBounds_toArray, List.set_cons_zero, List.set_cons_succ, i64_w, i32_w]; rfl
                           refine pure_ (i := 4) (N := some 298) (v := ?_) (a' := ?_) #[t_,t_,t_,t_,t_,f_,f_,f_,f_,f_,f_,f_,f_,f_,f_,f_,f_,f_] rfl rfl (any_of HT_.out z4_) (fun _ _ _ h => h) (Or.inl ⟨by rfl, ?_⟩) ?_ ?_; rotate_left
                           ·intro w'; go_simp; with_reducible rfl
                           rotate_left
                           ·simp only [Act.put, List.setIfInBounds_toArray, List.set_cons_zero, List.set_cons_succ, i64_w, i32_w]; rfl
                           refine pure_ (i := 5) (N := some 299) (v := ?_) (a' := ?_) #[t_,t_,t_,t_,t_,t_,f_,f_,f_,f_,f_,f_,f_,f_,f_,f_,f_,f_] rfl rfl (any_of HT_.out z4_) (fun _ _ _ h => h) (Or.inl ⟨by rfl, ?_⟩) ?_ ?_; rotate_left
                           ·intro w'; go_simp; with_reducible rfl
                           rotate_left
                           ·simp only [Act.put, List.setIfInBounds_toArray, List.set_cons_zero, List.set_cons_succ, i64_w, i32_w]; rfl
                           refine pure_ (i := 7) (N := some 301) (v := ?_) (a' := ?_) #[t_,t_,t_,t_,t_,t_,f_,t_,f_,f_,f_,f_,f_,f_,f_,f_,f_,f_] rfl rfl (any_of HT_.out z4_) (fun _ _ _ h => h) (Or.inl ⟨by rfl, ?_⟩) ?_ ?_; rotate_left
                           ·intro w'; go_simp; with_reducible rfl
                           rotate_left
                           ·simp only [Act.put, List.setIfInBounds_toArray, List.set_cons_zero, List.set_cons_succ, i64_w, i32_w]; rfl
                           refine pure_ (i := 8) (N := some 302) (v := ?_) (a' := ?_) #[t_,t_,t_,t_,t_,t_,f_,t_,t_,f_,f_,f_,f_,f_,f_,f_,f_,f_] rfl rfl (any_of HT_.out z4_) (fun _ _ _ h => h) (Or.inl ⟨by rfl, ?_⟩) ?_ ?_; rotate_left
                           ·intro w'; go_simp; with_reducible rfl
                           rotate_left
                           ·simp only [Act.put, List.setIfInBounds_toArray, List.set_cons_zero, List.set_cons_succ, i64_w, i32_w]; rfl
                           refine pure_ (i := 9) (N := some 303) (v := ?_) (a' := ?_) #[t_,t_,t_,t_,t_,t_,f_,t_,t_,t_,f_,f_,f_,f_,f_,f_,f_,f_] rfl rfl (any_of HT_.out z4_) (fun _ _ _ h => h) (Or.inl ⟨by rfl, ?_⟩) ?_ ?_; rotate_left
                           ·intro w'; go_simp; with_reducible rfl
                           rotate_left
                           ·simp only [Act.put, List.setIfInBounds_toArray, List.set_cons_zero, List.set_cons_succ, i64_w, i32_w]; rfl
                           refine pure_ (i := 10) (N := some 304) (v := ?_) (a' := ?_) #[t_,t_,t_,t_,t_,t_,f_,t_,t_,t_,t_,f_,f_,f_,f_,f_,f_,f_] rfl rfl (any_of HT_.out z4_) (fun _ _ _ h => h) (Or.inl ⟨by rfl, ?_⟩) ?_ ?_; rotate_left
                           ·intro w'; go_simp; with_reducible rfl
                           rotate_left
                           ·simp only [Act.put, List.setIfInBounds_toArray, List.set_cons_zero, List.set_cons_succ, i64_w, i32_w]; rfl
                           refine take_ (i := 6) (N := some 300) (v := ?_) (a' := ?_) #[t_,t_,t_,t_,t_,t_,t_,t_,t_,t_,t_,f_,f_,f_,f_,f_,f_,f_] rfl rfl (take_ofW HT_.out HW_.out z4_) (fun _ _ _ h => h) (Or.inl ⟨by rfl, ?_⟩) hHeld ?_ ?_; rotate_left
                           ·rintro w' ⟨s0, s1, s2, s3, s4, s5⟩; go_simp; with_reducible rfl
                           rotate_left
                           ·simp only [Act.put, List.setIfInBounds_toArray, List.set_cons_zero, List.set_cons_succ, i64_w, i32_w]; rfl
                           refine take_ (i := 11) (N := some 305) (v := ?_) (a' := ?_) #[t_,t_,t_,t_,t_,t_,t_,t_,t_,t_,t_,t_,f_,f_,f_,f_,f_,f_] rfl rfl (take_ofW HT_.out HW_.out z4_) (fun _ _ _ h => h) (Or.inl ⟨by rfl, ?_⟩) hHeld ?_ ?_; rotate_left
                           ·rintro w' ⟨s0, s1, s2, s3, s4, s5⟩; go_simp; with_reducible rfl
                           rotate_left
                           ·simp only [Act.put, List.setIfInBounds_toArray, List.set_cons_zero, List.set_cons_succ, i64_w, i32_w]; rfl
                           refine one_ (i := 12) (N := some 306) #[t_,t_,t_,t_,t_,t_,t_,t_,t_,t_,t_,t_,t_,f_,f_,f_,f_,f_] rfl rfl (one_of HT_.out z4_) (by decide) (fun K hK => ?_); refine goes_ Tryd.func52 z4_ rfl #[.int .i64 t352, .slice (some ad417) t376.length co106, .int .i64 ((rd_T77 t376 x30_4).f1), .int .i64 ((rd_T77 t376 x30_4).f0)] (by rfl) rfl rfl z1_ ?_; (with_reducible refine (impl_OwedBetween.calls k4 t352 _ _ t376 ((rd_T77 t376 x30_4).f1) ((rd_T77 t376 x30_4).f0) t419 t420 _ ?side1 ?side2 A156.out).mono ?_); (case side1 => repeat (first | exact (Kd.R_reads' HO_15.out).2.2 | (with_reducible refine Kd.C_alloc ?_ _) | (with_reducible refine Kd.C_drewN ?_ _) | (with_reducible refine Kd.C_drew ?_))); (case side2 => exact (Kd.R_reads' HO_15.out).2.1); rintro e w160 ⟨rfl, hb⟩; have HS0_ := (hb.cell (World.block_lt_of_cell? _ _ (hHeld.1))).trans (hHeld.1); have HS1_ := (hb.cell (World.block_lt_of_cell? _ _ (hHeld.2.1))).trans (hHeld.2.1); have HS2_ := (hb.cell (World.block_lt_of_cell? _ _ (hHeld.2.2.1))).trans (hHeld.2.2.1); have HS3_ := (hb.cell (World.block_lt_of_cell? _ _ (hHeld.2.2.2.1))).trans (hHeld.2.2.2.1); have HS4_ := (hb.cell (World.block_lt_of_cell? _ _ (hHeld.2.2.2.2.1))).trans (hHeld.2.2.2.2.1); have HS5_ := (hb.cell (World.block_lt_of_cell? _ _ (hHeld.2.2.2.2.2))).trans (hHeld.2.2.2.2.2); refine ⟨_, rfl, ?_⟩; have n0_ := Aside0.mk (Kd.R_below z15_ hb); have n1_ := Aside0.mk (below_step z0_ hb); clear HO_15; clear HB; have HO_15 := n0_; have HB := n1_; clear n0_ n1_; (try clear hb); (try clear hb2); (try clear hk); (try clear hi); refine hK.out _ _ ⟨HS0_, HS1_, HS2_, HS3_, HS4_, HS5_⟩ (fun hHeld => ?_); clear hK K; refine norm_ (a' := ?_) ?_ ?_; rotate_left
                           ·show Act.put _ (some 306) _ = _; simp only [Act.put, List.setIfInBounds_toArray, List.set_cons_zero, List.set_cons_succ, i64_w, i32_w]; rfl
                           refine pure_ (i := 13) (N := some 293) (v := ?_) (a' := ?_) #[t_,t_,t_,t_,t_,t_,t_,t_,t_,t_,t_,t_,t_,t_,f_,f_,f_,f_] rfl rfl (any_of HT_.out z4_) (fun _ _ _ h => h) (Or.inl ⟨by rfl, ?_⟩) ?_ ?_; rotate_left
                           ·intro w'; go_simp; with_reducible rfl
                           rotate_left
                           ·simp only [Act.put, List.setIfInBounds_toArray, List.set_cons_zero, List.set_cons_succ, i64_w, i32_w]; rfl
                           refine pure_ (i := 14) (N := some 307) (v := ?_) (a' := ?_) #[t_,t_,t_,t_,t_,t_,t_,t_,t_,t_,t_,t_,t_,t_,t_,f_,f_,f_] rfl rfl (any_of HT_.out z4_) (fun _ _ _ h => h) (Or.inl ⟨by rfl, ?_⟩) ?_ ?_; rotate_left
                           ·intro w'; go_simp; with_reducible rfl
                           rotate_left
                           ·simp only [Act.put, List.setIfInBounds_toArray, List.set_cons_zero, List.set_cons_succ, i64_w, i32_w]; rfl
                           refine pure_ (i := 15) (N := some 308) (v := ?_) (a' := ?_) #[t_,t_,t_,t_,t_,t_,t_,t_,t_,t_,t_,t_,t_,t_,t_,t_,f_,f_] rfl rfl (any_of HT_.out z4_) (fun _ _ _ h => h) (Or.inl ⟨by rfl, ?_⟩) ?_ ?_; rotate_left
                           ·intro w'; go_simp; with_reducible rfl
                           rotate_left
                           ·simp only [Act.put, List.setIfInBounds_toArray, List.set_cons_zero, List.set_cons_succ, i64_w, i32_w]; rfl
                           refine pure_ (i := 16) (N := some 31) (v := ?_) (a' := ?_) #[t_,t_,t_,t_,t_,t_,t_,t_,t_,t_,t_,t_,t_,t_,t_,t_,t_,f_] rfl rfl (any_of HT_.out z4_) (fun _ _ _ h => h) (Or.inl ⟨by rfl, ?_⟩) ?_ ?_; rotate_left
                           ·intro w'; go_simp; with_reducible rfl
                           rotate_left
                           ·simp only [Act.put, List.setIfInBounds_toArray, List.set_cons_zero, List.set_cons_succ, i64_w, i32_w]; rfl
                           refine pure_ (i := 17) (N := some 32) (v := ?_) (a' := ?_) #[t_,t_,t_,t_,t_,t_,t_,t_,t_,t_,t_,t_,t_,t_,t_,t_,t_,t_] rfl rfl (any_of HT_.out z4_) (fun _ _ _ h => h) (Or.inl ⟨by rfl, ?_⟩) ?_ ?_; rotate_left
                           ·intro w'; go_simp; with_reducible rfl
                           rotate_left
                           ·simp only [Act.put, List.setIfInBounds_toArray, List.set_cons_zero, List.set_cons_succ, i64_w, i32_w]; rfl
                           refine done_ (done_of HT_.out z4_) ?_; (try go_wp2); go_roundg k4
                           case measure => have := HJ12.out; have := HJ102.out; have := HK3.out; have := HK4.out; omega
                           case rel => exact ⟨(wrap64 (x30_4 + 1)), z5_, H', ⟨by have := HJ12.out; have := HJ102.out; have := HK3.out; have := HK4.out; omega⟩, ⟨z15_⟩, ⟨z0_⟩⟩
                        ·rw [if_neg c158] at H; have c158b0 : (t419 == 0) = false := beq_eq_false_iff_ne.mpr c158; have c158b1 : (t419 != 0) = true := bne_iff_ne.mpr c158
                         as_aux_lemma =>
                           obtain rfl := Option.some.inj H; cases ht
                       ·rw [if_neg c157] at H; have c157b0 : (t420 == 0) = false := beq_eq_false_iff_ne.mpr c157; have c157b1 : (t420 != 0) = true := bne_iff_ne.mpr c157
                        as_aux_lemma =>
                          obtain rfl := Option.some.inj H; cases ht
                      ·rw [if_neg c155] at H; exact absurd H (by simp)
                     ·rw [if_neg c154] at H; have c154b0 : decide (x30_4 < (t376.length : Int)) = false := decide_eq_false c154; clear c154
                      as_aux_lemma =>
                        obtain rfl := Option.some.inj H; go_wp2; go_ret; exact ⟨z3_, z0_⟩

end Go.Proofs.YtfjmljgbdejghaaDoor.MNets
