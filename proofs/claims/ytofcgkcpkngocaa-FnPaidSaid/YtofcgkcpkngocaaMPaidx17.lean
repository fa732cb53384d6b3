-- by a program of this session, for this claim
import Derived.Test.YtofcgkcpkngocaaMPaidx0
import Derived.Test.YtofcgkcpkngocaaMPaidx4
import Derived.Test.YtofcgkcpkngocaaMPaidx6
import Derived.Test.YtofcgkcpkngocaaMPaidx7
import Derived.Test.YtofcgkcpkngocaaMPaidx8
import Derived.Test.YtofcgkcpkngocaaMPaidx9
import Derived.Test.YtofcgkcpkngocaaMPaidx11
import Derived.Test.YtofcgkcpkngocaaMPaidx13
import Derived.Test.YtofcgkcpkngocaaMPaidx14
import Derived.Test.YtofcgkcpkngocaaMPaidx15
import Derived.Test.YtofcgkcpkngocaaMPaidx16
namespace Go.Proofs.Ytofcgkcpkngocaa.MPaid
open Go.RowKit Go.Proofs.YtofcgkcpkngocaaW.PrintWords Go.Proofs.YtofcgkcpkngocaaW.PrintLast Go.Proofs.YtofcgkcpkngocaaW.PrintMore
attribute [local go_sem] max2_int min2_int max_two min_two max_three min_three max_four min_four   -- for this text's walks alone
set_option linter.unusedVariables false
set_option linter.unusedSimpArgs false

/-! ### laws_FnPaid: function 14 -/
mutual
def laws_FnPaid.j0 : Nat → List Int → Int → List (S65) → Int → Int → Int → Int → Int → Int → List (S65) → Bool → Option (Bool)
  | 0, _, _, _, _, _, _, _, _, _, _, _ => none
  | k + 1, x1, x5, x6, x7, x8, x9, x10, x11, x14, x15, x106 => if x106 = true then (some false) else (if x14 = 0 then ((impl_OwedBetween.f k x5 x15 x7 x8).bind fun bt398 => (if bt398.2 = 0 then (if bt398.1 = (wrap64 (x11 - x10)) then (laws_FnPaid.j1 k x1 x5 x6 x7 x8 x9 x10) else (some false)) else (some false))) else (laws_FnPaid.j1 k x1 x5 x6 x7 x8 x9 x10))
def laws_FnPaid.j1 : Nat → List Int → Int → List (S65) → Int → Int → Int → Int → Option (Bool)
  | 0, _, _, _, _, _, _, _ => none
  | k + 1, x1, x5, x6, x7, x8, x9, x10 => (impl_PassDebt.f k x5 x6 x7 x8 x9 x10).bind fun bt400 => ((spec_PassDebt.f k x5 x6 x7 x8 x9 x10).bind fun bt404 => (if bt400.2 = bt404.2 then ((spec_SameDebts.f k bt400.1 bt404.1).bind fun t408 => (laws_FnPaid.j2 k x1 x5 x6 bt400.2 bt404.1 (!t408))) else (laws_FnPaid.j2 k x1 x5 x6 bt400.2 bt404.1 true)))
def laws_FnPaid.j2 : Nat → List Int → Int → List (S65) → Int → List (S65) → Bool → Option (Bool)
  | 0, _, _, _, _, _, _ => none
  | k + 1, x1, x5, x6, x20, x21, x154 => if x154 = true then (some false) else (if x20 = 0 then ((spec_NetsOf.f k x5 x6).bind fun bt409 => ((impl_NetsOf.f k x5 x21).bind fun bt413 => (if bt409.2 = 0 then (if bt413.2 = 0 then ((spec_A2Same.f k bt409.1 bt413.1).bind fun t417 => (if t417 = true then (laws_FnPaid.j3 k x1 x5 x6) else (some false))) else (some false)) else (some false)))) else (laws_FnPaid.j3 k x1 x5 x6))
def laws_FnPaid.j3 : Nat → List Int → Int → List (S65) → Option (Bool)
  | 0, _, _, _ => none
  | k + 1, x1, x5, x6 => laws_FnPaid.l0 k x1 x5 x6 (([] : List Int)) 0
def laws_FnPaid.l0 : Nat → List Int → Int → List (S65) → List Int → Int → Option (Bool)
  | 0, _, _, _, _, _ => none
  | k + 1, x1, x5, x6, x27, x28 => if x28 < x5 then ((laws_a2At.f x1 (wrap64 (4 + x28)) 100).bind fun t421 => (if x27.length < 17592186044416 then (laws_FnPaid.l0 k x1 x5 x6 (x27 ++ [t421]) (wrap64 (x28 + 1))) else (none))) else ((impl_CanPayFrom.f k x5 x6 x27).bind fun bt425 => ((spec_CanPayFrom.f k x5 x6 x27).bind fun bt429 => (if bt425.2 = bt429.2 then (if bt425.2 = 0 then ((spec_A2Same.f k bt425.1 bt429.1).bind fun t433 => (laws_FnPaid.j5 k x5 x6 x27 bt429.1 (!t433))) else (laws_FnPaid.j5 k x5 x6 x27 bt429.1 true)) else (laws_FnPaid.j5 k x5 x6 x27 bt429.1 true))))
def laws_FnPaid.j5 : Nat → Int → List (S65) → List Int → List Int → Bool → Option (Bool)
  | 0, _, _, _, _, _ => none
  | k + 1, x5, x6, x27, x31, x220 => if x220 = true then (some false) else (laws_FnPaid.l1 k x5 x6 x27 x31 0)
def laws_FnPaid.l1 : Nat → Int → List (S65) → List Int → List Int → Int → Option (Bool)
  | 0, _, _, _, _, _ => none
  | k + 1, x5, x6, x27, x31, x33 => if x33 < (x31.length : Int) then (if 0 ≤ x33 then (if (rd x31 x33) < 0 then (laws_FnPaid.j7 k x5 x6 x27 x31 x33 true) else (laws_FnPaid.j7 k x5 x6 x27 x31 x33 (decide ((rd x31 x33) ≥ x5)))) else (none)) else (laws_FnPaid.l3 k x5 x6 x27 x31 0)
def laws_FnPaid.j7 : Nat → Int → List (S65) → List Int → List Int → Int → Bool → Option (Bool)
  | 0, _, _, _, _, _, _ => none
  | k + 1, x5, x6, x27, x31, x33, x239 => if x239 = true then (some false) else (laws_FnPaid.l2 k x5 x6 x27 x31 x33 0)
def laws_FnPaid.l2 : Nat → Int → List (S65) → List Int → List Int → Int → Int → Option (Bool)
  | 0, _, _, _, _, _, _ => none
  | k + 1, x5, x6, x27, x31, x33, x34 => if x34 < x33 then (if 0 ≤ x34 then (if x34 < (x31.length : Int) then (if 0 ≤ x33 then (if x33 < (x31.length : Int) then (if (rd x31 x34) = (rd x31 x33) then (some false) else (laws_FnPaid.l2 k x5 x6 x27 x31 x33 (wrap64 (x34 + 1)))) else (none)) else (none)) else (none)) else (none)) else (laws_FnPaid.l1 k x5 x6 x27 x31 (wrap64 (x33 + 1)))
def laws_FnPaid.l3 : Nat → Int → List (S65) → List Int → List Int → Int → Option (Bool)
  | 0, _, _, _, _, _ => none
  | k + 1, x5, x6, x27, x31, x35 => if x35 < x5 then (laws_FnPaid.l4 k x5 x6 x27 x31 x35 0 0) else (some true)
def laws_FnPaid.l4 : Nat → Int → List (S65) → List Int → List Int → Int → Int → Int → Option (Bool)
  | 0, _, _, _, _, _, _, _ => none
  | k + 1, x5, x6, x27, x31, x35, x36, x37 => if x37 < x5 then ((spec_OwedBetween.f k x5 x6 x35 x37).bind fun bt438 => (if bt438.2 = 0 then (laws_FnPaid.l4 k x5 x6 x27 x31 x35 (wrap64 (x36 + bt438.1)) (wrap64 (x37 + 1))) else (some false))) else (if 0 ≤ x35 then (if x35 < (x27.length : Int) then (if (rd x27 x35) ≥ x36 then ((spec_A2Has.f k x31 x35).bind fun t441 => (if t441 = true then (laws_FnPaid.l3 k x5 x6 x27 x31 (wrap64 (x35 + 1))) else (some false))) else (laws_FnPaid.l3 k x5 x6 x27 x31 (wrap64 (x35 + 1)))) else (none)) else (none))
end
def laws_FnPaid.f (k : Nat) (l0 : List Int) (l1 : List Int) : Option (Bool) := (laws_a2Long.f l0 l1).bind fun t378 => (if t378 = true then (some true) else ((spec_A2Debts.f k l0).bind fun bt379 => ((laws_a2At.f l1 0 bt379.1).bind fun t383 => ((laws_a2At.f l1 1 bt379.1).bind fun t384 => ((laws_a2At.f l1 2 bt379.1).bind fun t385 => ((laws_a2At.f l1 3 30).bind fun t386 => ((spec_OwedBetween.f k bt379.1 bt379.2 t383 t384).bind fun bt387 => ((impl_PayDebt.f k bt379.1 bt379.2 t383 t384 (wrap64 (1 + t386))).bind fun bt389 => ((spec_PayDebt.f k bt379.1 bt379.2 t383 t384 (wrap64 (1 + t386))).bind fun bt393 => (if bt387.2 = 0 then (if bt389.2 = bt393.2 then ((spec_SameDebts.f k bt389.1 bt393.1).bind fun t397 => (if t397 = true then (laws_FnPaid.j0 k l1 bt379.1 bt379.2 t383 t384 t385 (wrap64 (1 + t386)) bt387.1 bt389.2 bt393.1 ((bt389.2 == 0) != (decide ((wrap64 (1 + t386)) ≤ bt387.1)))) else (laws_FnPaid.j0 k l1 bt379.1 bt379.2 t383 t384 t385 (wrap64 (1 + t386)) bt387.1 bt389.2 bt393.1 true))) else (laws_FnPaid.j0 k l1 bt379.1 bt379.2 t383 t384 t385 (wrap64 (1 + t386)) bt387.1 bt389.2 bt393.1 true)) else (laws_FnPaid.j0 k l1 bt379.1 bt379.2 t383 t384 t385 (wrap64 (1 + t386)) bt387.1 bt389.2 bt393.1 true)))))))))))
theorem laws_FnPaid.mono_l : ∀ k, (∀ y0 y1 y2 y3 y4 y5 y6 y7 y8 y9 y10, LeO (laws_FnPaid.j0 k y0 y1 y2 y3 y4 y5 y6 y7 y8 y9 y10) (laws_FnPaid.j0 (k + 1) y0 y1 y2 y3 y4 y5 y6 y7 y8 y9 y10)) ∧ (∀ y0 y1 y2 y3 y4 y5 y6, LeO (laws_FnPaid.j1 k y0 y1 y2 y3 y4 y5 y6) (laws_FnPaid.j1 (k + 1) y0 y1 y2 y3 y4 y5 y6)) ∧ (∀ y0 y1 y2 y3 y4 y5, LeO (laws_FnPaid.j2 k y0 y1 y2 y3 y4 y5) (laws_FnPaid.j2 (k + 1) y0 y1 y2 y3 y4 y5)) ∧ (∀ y0 y1 y2, LeO (laws_FnPaid.j3 k y0 y1 y2) (laws_FnPaid.j3 (k + 1) y0 y1 y2)) ∧ (∀ y0 y1 y2 y3 y4, LeO (laws_FnPaid.l0 k y0 y1 y2 y3 y4) (laws_FnPaid.l0 (k + 1) y0 y1 y2 y3 y4)) ∧ (∀ y0 y1 y2 y3 y4, LeO (laws_FnPaid.j5 k y0 y1 y2 y3 y4) (laws_FnPaid.j5 (k + 1) y0 y1 y2 y3 y4)) ∧ (∀ y0 y1 y2 y3 y4, LeO (laws_FnPaid.l1 k y0 y1 y2 y3 y4) (laws_FnPaid.l1 (k + 1) y0 y1 y2 y3 y4)) ∧ (∀ y0 y1 y2 y3 y4 y5, LeO (laws_FnPaid.j7 k y0 y1 y2 y3 y4 y5) (laws_FnPaid.j7 (k + 1) y0 y1 y2 y3 y4 y5)) ∧ (∀ y0 y1 y2 y3 y4 y5, LeO (laws_FnPaid.l2 k y0 y1 y2 y3 y4 y5) (laws_FnPaid.l2 (k + 1) y0 y1 y2 y3 y4 y5)) ∧ (∀ y0 y1 y2 y3 y4, LeO (laws_FnPaid.l3 k y0 y1 y2 y3 y4) (laws_FnPaid.l3 (k + 1) y0 y1 y2 y3 y4)) ∧ (∀ y0 y1 y2 y3 y4 y5 y6, LeO (laws_FnPaid.l4 k y0 y1 y2 y3 y4 y5 y6) (laws_FnPaid.l4 (k + 1) y0 y1 y2 y3 y4 y5 y6))
  | 0 => ⟨fun _ _ _ _ _ _ _ _ _ _ _ r h => by simp [laws_FnPaid.j0] at h, fun _ _ _ _ _ _ _ r h => by simp [laws_FnPaid.j1] at h, fun _ _ _ _ _ _ r h => by simp [laws_FnPaid.j2] at h, fun _ _ _ r h => by simp [laws_FnPaid.j3] at h, fun _ _ _ _ _ r h => by simp [laws_FnPaid.l0] at h, fun _ _ _ _ _ r h => by simp [laws_FnPaid.j5] at h, fun _ _ _ _ _ r h => by simp [laws_FnPaid.l1] at h, fun _ _ _ _ _ _ r h => by simp [laws_FnPaid.j7] at h, fun _ _ _ _ _ _ r h => by simp [laws_FnPaid.l2] at h, fun _ _ _ _ _ r h => by simp [laws_FnPaid.l3] at h, fun _ _ _ _ _ _ _ r h => by simp [laws_FnPaid.l4] at h⟩
  | k + 1 => by
    obtain ⟨ih0, ih1, ih2, ih3, ih4, ih5, ih6, ih7, ih8, ih9, ih10⟩ := laws_FnPaid.mono_l k
    refine ⟨?_, ?_, ?_, ?_, ?_, ?_, ?_, ?_, ?_, ?_, ?_⟩
    · intro y0 y1 y2 y3 y4 y5 y6 y7 y8 y9 y10
      unfold laws_FnPaid.j0
      repeat' first
      | (with_reducible exact ih0 _ _ _ _ _ _ _ _ _ _ _)
      | (with_reducible exact ih1 _ _ _ _ _ _ _)
      | (with_reducible exact ih2 _ _ _ _ _ _)
      | (with_reducible exact ih3 _ _ _)
      | (with_reducible exact ih4 _ _ _ _ _)
      | (with_reducible exact ih5 _ _ _ _ _)
      | (with_reducible exact ih6 _ _ _ _ _)
      | (with_reducible exact ih7 _ _ _ _ _ _)
      | (with_reducible exact ih8 _ _ _ _ _ _)
      | (with_reducible exact ih9 _ _ _ _ _)
      | (with_reducible exact ih10 _ _ _ _ _ _ _)
      | (with_reducible exact impl_CanPayFrom.mono _ _ _ _)
      | (with_reducible exact impl_NetsOf.mono _ _ _)
      | (with_reducible exact impl_OwedBetween.mono _ _ _ _ _)
      | (with_reducible exact impl_PassDebt.mono _ _ _ _ _ _ _)
      | (with_reducible exact impl_PayDebt.mono _ _ _ _ _ _)
      | (with_reducible exact spec_A2Debts.mono _ _)
      | (with_reducible exact spec_A2Has.mono _ _ _)
      | (with_reducible exact spec_A2Same.mono _ _ _)
      | (with_reducible exact spec_CanPayFrom.mono _ _ _ _)
      | (with_reducible exact spec_NetsOf.mono _ _ _)
      | (with_reducible exact spec_OwedBetween.mono _ _ _ _ _)
      | (with_reducible exact spec_PassDebt.mono _ _ _ _ _ _ _)
      | (with_reducible exact spec_PayDebt.mono _ _ _ _ _ _)
      | (with_reducible exact spec_SameDebts.mono _ _ _)
      | (with_reducible exact LeO.refl _)
      | (with_reducible exact LeO.none _)
      | (with_reducible refine LeO.ite ?_ ?_)
      | (with_reducible refine LeO.bind ?_ (fun _ => ?_))
      | exact ih0 _ _ _ _ _ _ _ _ _ _ _
      | exact ih1 _ _ _ _ _ _ _
      | exact ih2 _ _ _ _ _ _
      | exact ih3 _ _ _
      | exact ih4 _ _ _ _ _
      | exact ih5 _ _ _ _ _
      | exact ih6 _ _ _ _ _
      | exact ih7 _ _ _ _ _ _
      | exact ih8 _ _ _ _ _ _
      | exact ih9 _ _ _ _ _
      | exact ih10 _ _ _ _ _ _ _
      | exact impl_CanPayFrom.mono _ _ _ _
      | exact impl_NetsOf.mono _ _ _
      | exact impl_OwedBetween.mono _ _ _ _ _
      | exact impl_PassDebt.mono _ _ _ _ _ _ _
      | exact impl_PayDebt.mono _ _ _ _ _ _
      | exact spec_A2Debts.mono _ _
      | exact spec_A2Has.mono _ _ _
      | exact spec_A2Same.mono _ _ _
      | exact spec_CanPayFrom.mono _ _ _ _
      | exact spec_NetsOf.mono _ _ _
      | exact spec_OwedBetween.mono _ _ _ _ _
      | exact spec_PassDebt.mono _ _ _ _ _ _ _
      | exact spec_PayDebt.mono _ _ _ _ _ _
      | exact spec_SameDebts.mono _ _ _
      | exact LeO.none _
      | refine LeO.ite ?_ ?_
      | refine LeO.bind ?_ (fun _ => ?_)
    · intro y0 y1 y2 y3 y4 y5 y6
      unfold laws_FnPaid.j1
      repeat' first
      | (with_reducible exact ih0 _ _ _ _ _ _ _ _ _ _ _)
      | (with_reducible exact ih1 _ _ _ _ _ _ _)
      | (with_reducible exact ih2 _ _ _ _ _ _)
      | (with_reducible exact ih3 _ _ _)
      | (with_reducible exact ih4 _ _ _ _ _)
      | (with_reducible exact ih5 _ _ _ _ _)
      | (with_reducible exact ih6 _ _ _ _ _)
      | (with_reducible exact ih7 _ _ _ _ _ _)
      | (with_reducible exact ih8 _ _ _ _ _ _)
      | (with_reducible exact ih9 _ _ _ _ _)
      | (with_reducible exact ih10 _ _ _ _ _ _ _)
      | (with_reducible exact impl_CanPayFrom.mono _ _ _ _)
      | (with_reducible exact impl_NetsOf.mono _ _ _)
      | (with_reducible exact impl_OwedBetween.mono _ _ _ _ _)
      | (with_reducible exact impl_PassDebt.mono _ _ _ _ _ _ _)
      | (with_reducible exact impl_PayDebt.mono _ _ _ _ _ _)
      | (with_reducible exact spec_A2Debts.mono _ _)
      | (with_reducible exact spec_A2Has.mono _ _ _)
      | (with_reducible exact spec_A2Same.mono _ _ _)
      | (with_reducible exact spec_CanPayFrom.mono _ _ _ _)
      | (with_reducible exact spec_NetsOf.mono _ _ _)
      | (with_reducible exact spec_OwedBetween.mono _ _ _ _ _)
      | (with_reducible exact spec_PassDebt.mono _ _ _ _ _ _ _)
      | (with_reducible exact spec_PayDebt.mono _ _ _ _ _ _)
      | (with_reducible exact spec_SameDebts.mono _ _ _)
      | (with_reducible exact LeO.refl _)
      | (with_reducible exact LeO.none _)
      | (with_reducible refine LeO.ite ?_ ?_)
      | (with_reducible refine LeO.bind ?_ (fun _ => ?_))
      | exact ih0 _ _ _ _ _ _ _ _ _ _ _
      | exact ih1 _ _ _ _ _ _ _
      | exact ih2 _ _ _ _ _ _
      | exact ih3 _ _ _
      | exact ih4 _ _ _ _ _
      | exact ih5 _ _ _ _ _
      | exact ih6 _ _ _ _ _
      | exact ih7 _ _ _ _ _ _
      | exact ih8 _ _ _ _ _ _
      | exact ih9 _ _ _ _ _
      | exact ih10 _ _ _ _ _ _ _
      | exact impl_CanPayFrom.mono _ _ _ _
      | exact impl_NetsOf.mono _ _ _
      | exact impl_OwedBetween.mono _ _ _ _ _
      | exact impl_PassDebt.mono _ _ _ _ _ _ _
      | exact impl_PayDebt.mono _ _ _ _ _ _
      | exact spec_A2Debts.mono _ _
      | exact spec_A2Has.mono _ _ _
      | exact spec_A2Same.mono _ _ _
      | exact spec_CanPayFrom.mono _ _ _ _
      | exact spec_NetsOf.mono _ _ _
      | exact spec_OwedBetween.mono _ _ _ _ _
      | exact spec_PassDebt.mono _ _ _ _ _ _ _
      | exact spec_PayDebt.mono _ _ _ _ _ _
      | exact spec_SameDebts.mono _ _ _
      | exact LeO.none _
      | refine LeO.ite ?_ ?_
      | refine LeO.bind ?_ (fun _ => ?_)
    · intro y0 y1 y2 y3 y4 y5
      unfold laws_FnPaid.j2
      repeat' first
      | (with_reducible exact ih0 _ _ _ _ _ _ _ _ _ _ _)
      | (with_reducible exact ih1 _ _ _ _ _ _ _)
      | (with_reducible exact ih2 _ _ _ _ _ _)
      | (with_reducible exact ih3 _ _ _)
      | (with_reducible exact ih4 _ _ _ _ _)
      | (with_reducible exact ih5 _ _ _ _ _)
      | (with_reducible exact ih6 _ _ _ _ _)
      | (with_reducible exact ih7 _ _ _ _ _ _)
      | (with_reducible exact ih8 _ _ _ _ _ _)
      | (with_reducible exact ih9 _ _ _ _ _)
      | (with_reducible exact ih10 _ _ _ _ _ _ _)
      | (with_reducible exact impl_CanPayFrom.mono _ _ _ _)
      | (with_reducible exact impl_NetsOf.mono _ _ _)
      | (with_reducible exact impl_OwedBetween.mono _ _ _ _ _)
      | (with_reducible exact impl_PassDebt.mono _ _ _ _ _ _ _)
      | (with_reducible exact impl_PayDebt.mono _ _ _ _ _ _)
      | (with_reducible exact spec_A2Debts.mono _ _)
      | (with_reducible exact spec_A2Has.mono _ _ _)
      | (with_reducible exact spec_A2Same.mono _ _ _)
      | (with_reducible exact spec_CanPayFrom.mono _ _ _ _)
      | (with_reducible exact spec_NetsOf.mono _ _ _)
      | (with_reducible exact spec_OwedBetween.mono _ _ _ _ _)
      | (with_reducible exact spec_PassDebt.mono _ _ _ _ _ _ _)
      | (with_reducible exact spec_PayDebt.mono _ _ _ _ _ _)
      | (with_reducible exact spec_SameDebts.mono _ _ _)
      | (with_reducible exact LeO.refl _)
      | (with_reducible exact LeO.none _)
      | (with_reducible refine LeO.ite ?_ ?_)
      | (with_reducible refine LeO.bind ?_ (fun _ => ?_))
      | exact ih0 _ _ _ _ _ _ _ _ _ _ _
      | exact ih1 _ _ _ _ _ _ _
      | exact ih2 _ _ _ _ _ _
      | exact ih3 _ _ _
      | exact ih4 _ _ _ _ _
      | exact ih5 _ _ _ _ _
      | exact ih6 _ _ _ _ _
      | exact ih7 _ _ _ _ _ _
      | exact ih8 _ _ _ _ _ _
      | exact ih9 _ _ _ _ _
      | exact ih10 _ _ _ _ _ _ _
      | exact impl_CanPayFrom.mono _ _ _ _
      | exact impl_NetsOf.mono _ _ _
      | exact impl_OwedBetween.mono _ _ _ _ _
      | exact impl_PassDebt.mono _ _ _ _ _ _ _
      | exact impl_PayDebt.mono _ _ _ _ _ _
      | exact spec_A2Debts.mono _ _
      | exact spec_A2Has.mono _ _ _
      | exact spec_A2Same.mono _ _ _
      | exact spec_CanPayFrom.mono _ _ _ _
      | exact spec_NetsOf.mono _ _ _
      | exact spec_OwedBetween.mono _ _ _ _ _
      | exact spec_PassDebt.mono _ _ _ _ _ _ _
      | exact spec_PayDebt.mono _ _ _ _ _ _
      | exact spec_SameDebts.mono _ _ _
      | exact LeO.none _
      | refine LeO.ite ?_ ?_
      | refine LeO.bind ?_ (fun _ => ?_)
    · intro y0 y1 y2
      unfold laws_FnPaid.j3
      repeat' first
      | (with_reducible exact ih0 _ _ _ _ _ _ _ _ _ _ _)
      | (with_reducible exact ih1 _ _ _ _ _ _ _)
      | (with_reducible exact ih2 _ _ _ _ _ _)
      | (with_reducible exact ih3 _ _ _)
      | (with_reducible exact ih4 _ _ _ _ _)
      | (with_reducible exact ih5 _ _ _ _ _)
      | (with_reducible exact ih6 _ _ _ _ _)
      | (with_reducible exact ih7 _ _ _ _ _ _)
      | (with_reducible exact ih8 _ _ _ _ _ _)
      | (with_reducible exact ih9 _ _ _ _ _)
      | (with_reducible exact ih10 _ _ _ _ _ _ _)
      | (with_reducible exact impl_CanPayFrom.mono _ _ _ _)
      | (with_reducible exact impl_NetsOf.mono _ _ _)
      | (with_reducible exact impl_OwedBetween.mono _ _ _ _ _)
      | (with_reducible exact impl_PassDebt.mono _ _ _ _ _ _ _)
      | (with_reducible exact impl_PayDebt.mono _ _ _ _ _ _)
      | (with_reducible exact spec_A2Debts.mono _ _)
      | (with_reducible exact spec_A2Has.mono _ _ _)
      | (with_reducible exact spec_A2Same.mono _ _ _)
      | (with_reducible exact spec_CanPayFrom.mono _ _ _ _)
      | (with_reducible exact spec_NetsOf.mono _ _ _)
      | (with_reducible exact spec_OwedBetween.mono _ _ _ _ _)
      | (with_reducible exact spec_PassDebt.mono _ _ _ _ _ _ _)
      | (with_reducible exact spec_PayDebt.mono _ _ _ _ _ _)
      | (with_reducible exact spec_SameDebts.mono _ _ _)
      | (with_reducible exact LeO.refl _)
      | (with_reducible exact LeO.none _)
      | (with_reducible refine LeO.ite ?_ ?_)
      | (with_reducible refine LeO.bind ?_ (fun _ => ?_))
      | exact ih0 _ _ _ _ _ _ _ _ _ _ _
      | exact ih1 _ _ _ _ _ _ _
      | exact ih2 _ _ _ _ _ _
      | exact ih3 _ _ _
      | exact ih4 _ _ _ _ _
      | exact ih5 _ _ _ _ _
      | exact ih6 _ _ _ _ _
      | exact ih7 _ _ _ _ _ _
      | exact ih8 _ _ _ _ _ _
      | exact ih9 _ _ _ _ _
      | exact ih10 _ _ _ _ _ _ _
      | exact impl_CanPayFrom.mono _ _ _ _
      | exact impl_NetsOf.mono _ _ _
      | exact impl_OwedBetween.mono _ _ _ _ _
      | exact impl_PassDebt.mono _ _ _ _ _ _ _
      | exact impl_PayDebt.mono _ _ _ _ _ _
      | exact spec_A2Debts.mono _ _
      | exact spec_A2Has.mono _ _ _
      | exact spec_A2Same.mono _ _ _
      | exact spec_CanPayFrom.mono _ _ _ _
      | exact spec_NetsOf.mono _ _ _
      | exact spec_OwedBetween.mono _ _ _ _ _
      | exact spec_PassDebt.mono _ _ _ _ _ _ _
      | exact spec_PayDebt.mono _ _ _ _ _ _
      | exact spec_SameDebts.mono _ _ _
      | exact LeO.none _
      | refine LeO.ite ?_ ?_
      | refine LeO.bind ?_ (fun _ => ?_)
    · intro y0 y1 y2 y3 y4
      unfold laws_FnPaid.l0
      repeat' first
      | (with_reducible exact ih0 _ _ _ _ _ _ _ _ _ _ _)
      | (with_reducible exact ih1 _ _ _ _ _ _ _)
      | (with_reducible exact ih2 _ _ _ _ _ _)
      | (with_reducible exact ih3 _ _ _)
      | (with_reducible exact ih4 _ _ _ _ _)
      | (with_reducible exact ih5 _ _ _ _ _)
      | (with_reducible exact ih6 _ _ _ _ _)
      | (with_reducible exact ih7 _ _ _ _ _ _)
      | (with_reducible exact ih8 _ _ _ _ _ _)
      | (with_reducible exact ih9 _ _ _ _ _)
      | (with_reducible exact ih10 _ _ _ _ _ _ _)
      | (with_reducible exact impl_CanPayFrom.mono _ _ _ _)
      | (with_reducible exact impl_NetsOf.mono _ _ _)
      | (with_reducible exact impl_OwedBetween.mono _ _ _ _ _)
      | (with_reducible exact impl_PassDebt.mono _ _ _ _ _ _ _)
      | (with_reducible exact impl_PayDebt.mono _ _ _ _ _ _)
      | (with_reducible exact spec_A2Debts.mono _ _)
      | (with_reducible exact spec_A2Has.mono _ _ _)
      | (with_reducible exact spec_A2Same.mono _ _ _)
      | (with_reducible exact spec_CanPayFrom.mono _ _ _ _)
      | (with_reducible exact spec_NetsOf.mono _ _ _)
      | (with_reducible exact spec_OwedBetween.mono _ _ _ _ _)
      | (with_reducible exact spec_PassDebt.mono _ _ _ _ _ _ _)
      | (with_reducible exact spec_PayDebt.mono _ _ _ _ _ _)
      | (with_reducible exact spec_SameDebts.mono _ _ _)
      | (with_reducible exact LeO.refl _)
      | (with_reducible exact LeO.none _)
      | (with_reducible refine LeO.ite ?_ ?_)
      | (with_reducible refine LeO.bind ?_ (fun _ => ?_))
      | exact ih0 _ _ _ _ _ _ _ _ _ _ _
      | exact ih1 _ _ _ _ _ _ _
      | exact ih2 _ _ _ _ _ _
      | exact ih3 _ _ _
      | exact ih4 _ _ _ _ _
      | exact ih5 _ _ _ _ _
      | exact ih6 _ _ _ _ _
      | exact ih7 _ _ _ _ _ _
      | exact ih8 _ _ _ _ _ _
      | exact ih9 _ _ _ _ _
      | exact ih10 _ _ _ _ _ _ _
      | exact impl_CanPayFrom.mono _ _ _ _
      | exact impl_NetsOf.mono _ _ _
      | exact impl_OwedBetween.mono _ _ _ _ _
      | exact impl_PassDebt.mono _ _ _ _ _ _ _
      | exact impl_PayDebt.mono _ _ _ _ _ _
      | exact spec_A2Debts.mono _ _
      | exact spec_A2Has.mono _ _ _
      | exact spec_A2Same.mono _ _ _
      | exact spec_CanPayFrom.mono _ _ _ _
      | exact spec_NetsOf.mono _ _ _
      | exact spec_OwedBetween.mono _ _ _ _ _
      | exact spec_PassDebt.mono _ _ _ _ _ _ _
      | exact spec_PayDebt.mono _ _ _ _ _ _
      | exact spec_SameDebts.mono _ _ _
      | exact LeO.none _
      | refine LeO.ite ?_ ?_
      | refine LeO.bind ?_ (fun _ => ?_)
    · intro y0 y1 y2 y3 y4
      unfold laws_FnPaid.j5
      repeat' first
      | (with_reducible exact ih0 _ _ _ _ _ _ _ _ _ _ _)
      | (with_reducible exact ih1 _ _ _ _ _ _ _)
      | (with_reducible exact ih2 _ _ _ _ _ _)
      | (with_reducible exact ih3 _ _ _)
      | (with_reducible exact ih4 _ _ _ _ _)
      | (with_reducible exact ih5 _ _ _ _ _)
      | (with_reducible exact ih6 _ _ _ _ _)
      | (with_reducible exact ih7 _ _ _ _ _ _)
      | (with_reducible exact ih8 _ _ _ _ _ _)
      | (with_reducible exact ih9 _ _ _ _ _)
      | (with_reducible exact ih10 _ _ _ _ _ _ _)
      | (with_reducible exact impl_CanPayFrom.mono _ _ _ _)
      | (with_reducible exact impl_NetsOf.mono _ _ _)
      | (with_reducible exact impl_OwedBetween.mono _ _ _ _ _)
      | (with_reducible exact impl_PassDebt.mono _ _ _ _ _ _ _)
      | (with_reducible exact impl_PayDebt.mono _ _ _ _ _ _)
      | (with_reducible exact spec_A2Debts.mono _ _)
      | (with_reducible exact spec_A2Has.mono _ _ _)
      | (with_reducible exact spec_A2Same.mono _ _ _)
      | (with_reducible exact spec_CanPayFrom.mono _ _ _ _)
      | (with_reducible exact spec_NetsOf.mono _ _ _)
      | (with_reducible exact spec_OwedBetween.mono _ _ _ _ _)
      | (with_reducible exact spec_PassDebt.mono _ _ _ _ _ _ _)
      | (with_reducible exact spec_PayDebt.mono _ _ _ _ _ _)
      | (with_reducible exact spec_SameDebts.mono _ _ _)
      | (with_reducible exact LeO.refl _)
      | (with_reducible exact LeO.none _)
      | (with_reducible refine LeO.ite ?_ ?_)
      | (with_reducible refine LeO.bind ?_ (fun _ => ?_))
      | exact ih0 _ _ _ _ _ _ _ _ _ _ _
      | exact ih1 _ _ _ _ _ _ _
      | exact ih2 _ _ _ _ _ _
      | exact ih3 _ _ _
      | exact ih4 _ _ _ _ _
      | exact ih5 _ _ _ _ _
      | exact ih6 _ _ _ _ _
      | exact ih7 _ _ _ _ _ _
      | exact ih8 _ _ _ _ _ _
      | exact ih9 _ _ _ _ _
      | exact ih10 _ _ _ _ _ _ _
      | exact impl_CanPayFrom.mono _ _ _ _
      | exact impl_NetsOf.mono _ _ _
      | exact impl_OwedBetween.mono _ _ _ _ _
      | exact impl_PassDebt.mono _ _ _ _ _ _ _
      | exact impl_PayDebt.mono _ _ _ _ _ _
      | exact spec_A2Debts.mono _ _
      | exact spec_A2Has.mono _ _ _
      | exact spec_A2Same.mono _ _ _
      | exact spec_CanPayFrom.mono _ _ _ _
      | exact spec_NetsOf.mono _ _ _
      | exact spec_OwedBetween.mono _ _ _ _ _
      | exact spec_PassDebt.mono _ _ _ _ _ _ _
      | exact spec_PayDebt.mono _ _ _ _ _ _
      | exact spec_SameDebts.mono _ _ _
      | exact LeO.none _
      | refine LeO.ite ?_ ?_
      | refine LeO.bind ?_ (fun _ => ?_)
    · intro y0 y1 y2 y3 y4
      unfold laws_FnPaid.l1
      repeat' first
      | (with_reducible exact ih0 _ _ _ _ _ _ _ _ _ _ _)
      | (with_reducible exact ih1 _ _ _ _ _ _ _)
      | (with_reducible exact ih2 _ _ _ _ _ _)
      | (with_reducible exact ih3 _ _ _)
      | (with_reducible exact ih4 _ _ _ _ _)
      | (with_reducible exact ih5 _ _ _ _ _)
      | (with_reducible exact ih6 _ _ _ _ _)
      | (with_reducible exact ih7 _ _ _ _ _ _)
      | (with_reducible exact ih8 _ _ _ _ _ _)
      | (with_reducible exact ih9 _ _ _ _ _)
      | (with_reducible exact ih10 _ _ _ _ _ _ _)
      | (with_reducible exact impl_CanPayFrom.mono _ _ _ _)
      | (with_reducible exact impl_NetsOf.mono _ _ _)
      | (with_reducible exact impl_OwedBetween.mono _ _ _ _ _)
      | (with_reducible exact impl_PassDebt.mono _ _ _ _ _ _ _)
      | (with_reducible exact impl_PayDebt.mono _ _ _ _ _ _)
      | (with_reducible exact spec_A2Debts.mono _ _)
      | (with_reducible exact spec_A2Has.mono _ _ _)
      | (with_reducible exact spec_A2Same.mono _ _ _)
      | (with_reducible exact spec_CanPayFrom.mono _ _ _ _)
      | (with_reducible exact spec_NetsOf.mono _ _ _)
      | (with_reducible exact spec_OwedBetween.mono _ _ _ _ _)
      | (with_reducible exact spec_PassDebt.mono _ _ _ _ _ _ _)
      | (with_reducible exact spec_PayDebt.mono _ _ _ _ _ _)
      | (with_reducible exact spec_SameDebts.mono _ _ _)
      | (with_reducible exact LeO.refl _)
      | (with_reducible exact LeO.none _)
      | (with_reducible refine LeO.ite ?_ ?_)
      | (with_reducible refine LeO.bind ?_ (fun _ => ?_))
      | exact ih0 _ _ _ _ _ _ _ _ _ _ _
      | exact ih1 _ _ _ _ _ _ _
      | exact ih2 _ _ _ _ _ _
      | exact ih3 _ _ _
      | exact ih4 _ _ _ _ _
      | exact ih5 _ _ _ _ _
      | exact ih6 _ _ _ _ _
      | exact ih7 _ _ _ _ _ _
      | exact ih8 _ _ _ _ _ _
      | exact ih9 _ _ _ _ _
      | exact ih10 _ _ _ _ _ _ _
      | exact impl_CanPayFrom.mono _ _ _ _
      | exact impl_NetsOf.mono _ _ _
      | exact impl_OwedBetween.mono _ _ _ _ _
      | exact impl_PassDebt.mono _ _ _ _ _ _ _
      | exact impl_PayDebt.mono _ _ _ _ _ _
      | exact spec_A2Debts.mono _ _
      | exact spec_A2Has.mono _ _ _
      | exact spec_A2Same.mono _ _ _
      | exact spec_CanPayFrom.mono _ _ _ _
      | exact spec_NetsOf.mono _ _ _
      | exact spec_OwedBetween.mono _ _ _ _ _
      | exact spec_PassDebt.mono _ _ _ _ _ _ _
      | exact spec_PayDebt.mono _ _ _ _ _ _
      | exact spec_SameDebts.mono _ _ _
      | exact LeO.none _
      | refine LeO.ite ?_ ?_
      | refine LeO.bind ?_ (fun _ => ?_)
    · intro y0 y1 y2 y3 y4 y5
      unfold laws_FnPaid.j7
      repeat' first
      | (with_reducible exact ih0 _ _ _ _ _ _ _ _ _ _ _)
      | (with_reducible exact ih1 _ _ _ _ _ _ _)
      | (with_reducible exact ih2 _ _ _ _ _ _)
      | (with_reducible exact ih3 _ _ _)
      | (with_reducible exact ih4 _ _ _ _ _)
      | (with_reducible exact ih5 _ _ _ _ _)
      | (with_reducible exact ih6 _ _ _ _ _)
      | (with_reducible exact ih7 _ _ _ _ _ _)
      | (with_reducible exact ih8 _ _ _ _ _ _)
      | (with_reducible exact ih9 _ _ _ _ _)
      | (with_reducible exact ih10 _ _ _ _ _ _ _)
      | (with_reducible exact impl_CanPayFrom.mono _ _ _ _)
      | (with_reducible exact impl_NetsOf.mono _ _ _)
      | (with_reducible exact impl_OwedBetween.mono _ _ _ _ _)
      | (with_reducible exact impl_PassDebt.mono _ _ _ _ _ _ _)
      | (with_reducible exact impl_PayDebt.mono _ _ _ _ _ _)
      | (with_reducible exact spec_A2Debts.mono _ _)
      | (with_reducible exact spec_A2Has.mono _ _ _)
      | (with_reducible exact spec_A2Same.mono _ _ _)
      | (with_reducible exact spec_CanPayFrom.mono _ _ _ _)
      | (with_reducible exact spec_NetsOf.mono _ _ _)
      | (with_reducible exact spec_OwedBetween.mono _ _ _ _ _)
      | (with_reducible exact spec_PassDebt.mono _ _ _ _ _ _ _)
      | (with_reducible exact spec_PayDebt.mono _ _ _ _ _ _)
      | (with_reducible exact spec_SameDebts.mono _ _ _)
      | (with_reducible exact LeO.refl _)
      | (with_reducible exact LeO.none _)
      | (with_reducible refine LeO.ite ?_ ?_)
      | (with_reducible refine LeO.bind ?_ (fun _ => ?_))
      | exact ih0 _ _ _ _ _ _ _ _ _ _ _
      | exact ih1 _ _ _ _ _ _ _
      | exact ih2 _ _ _ _ _ _
      | exact ih3 _ _ _
      | exact ih4 _ _ _ _ _
      | exact ih5 _ _ _ _ _
      | exact ih6 _ _ _ _ _
      | exact ih7 _ _ _ _ _ _
      | exact ih8 _ _ _ _ _ _
      | exact ih9 _ _ _ _ _
      | exact ih10 _ _ _ _ _ _ _
      | exact impl_CanPayFrom.mono _ _ _ _
      | exact impl_NetsOf.mono _ _ _
      | exact impl_OwedBetween.mono _ _ _ _ _
      | exact impl_PassDebt.mono _ _ _ _ _ _ _
      | exact impl_PayDebt.mono _ _ _ _ _ _
      | exact spec_A2Debts.mono _ _
      | exact spec_A2Has.mono _ _ _
      | exact spec_A2Same.mono _ _ _
      | exact spec_CanPayFrom.mono _ _ _ _
      | exact spec_NetsOf.mono _ _ _
      | exact spec_OwedBetween.mono _ _ _ _ _
      | exact spec_PassDebt.mono _ _ _ _ _ _ _
      | exact spec_PayDebt.mono _ _ _ _ _ _
      | exact spec_SameDebts.mono _ _ _
      | exact LeO.none _
      | refine LeO.ite ?_ ?_
      | refine LeO.bind ?_ (fun _ => ?_)
    · intro y0 y1 y2 y3 y4 y5
      unfold laws_FnPaid.l2
      repeat' first
      | (with_reducible exact ih0 _ _ _ _ _ _ _ _ _ _ _)
      | (with_reducible exact ih1 _ _ _ _ _ _ _)
      | (with_reducible exact ih2 _ _ _ _ _ _)
      | (with_reducible exact ih3 _ _ _)
      | (with_reducible exact ih4 _ _ _ _ _)
      | (with_reducible exact ih5 _ _ _ _ _)
      | (with_reducible exact ih6 _ _ _ _ _)
      | (with_reducible exact ih7 _ _ _ _ _ _)
      | (with_reducible exact ih8 _ _ _ _ _ _)
      | (with_reducible exact ih9 _ _ _ _ _)
      | (with_reducible exact ih10 _ _ _ _ _ _ _)
      | (with_reducible exact impl_CanPayFrom.mono _ _ _ _)
      | (with_reducible exact impl_NetsOf.mono _ _ _)
      | (with_reducible exact impl_OwedBetween.mono _ _ _ _ _)
      | (with_reducible exact impl_PassDebt.mono _ _ _ _ _ _ _)
      | (with_reducible exact impl_PayDebt.mono _ _ _ _ _ _)
      | (with_reducible exact spec_A2Debts.mono _ _)
      | (with_reducible exact spec_A2Has.mono _ _ _)
      | (with_reducible exact spec_A2Same.mono _ _ _)
      | (with_reducible exact spec_CanPayFrom.mono _ _ _ _)
      | (with_reducible exact spec_NetsOf.mono _ _ _)
      | (with_reducible exact spec_OwedBetween.mono _ _ _ _ _)
      | (with_reducible exact spec_PassDebt.mono _ _ _ _ _ _ _)
      | (with_reducible exact spec_PayDebt.mono _ _ _ _ _ _)
      | (with_reducible exact spec_SameDebts.mono _ _ _)
      | (with_reducible exact LeO.refl _)
      | (with_reducible exact LeO.none _)
      | (with_reducible refine LeO.ite ?_ ?_)
      | (with_reducible refine LeO.bind ?_ (fun _ => ?_))
      | exact ih0 _ _ _ _ _ _ _ _ _ _ _
      | exact ih1 _ _ _ _ _ _ _
      | exact ih2 _ _ _ _ _ _
      | exact ih3 _ _ _
      | exact ih4 _ _ _ _ _
      | exact ih5 _ _ _ _ _
      | exact ih6 _ _ _ _ _
      | exact ih7 _ _ _ _ _ _
      | exact ih8 _ _ _ _ _ _
      | exact ih9 _ _ _ _ _
      | exact ih10 _ _ _ _ _ _ _
      | exact impl_CanPayFrom.mono _ _ _ _
      | exact impl_NetsOf.mono _ _ _
      | exact impl_OwedBetween.mono _ _ _ _ _
      | exact impl_PassDebt.mono _ _ _ _ _ _ _
      | exact impl_PayDebt.mono _ _ _ _ _ _
      | exact spec_A2Debts.mono _ _
      | exact spec_A2Has.mono _ _ _
      | exact spec_A2Same.mono _ _ _
      | exact spec_CanPayFrom.mono _ _ _ _
      | exact spec_NetsOf.mono _ _ _
      | exact spec_OwedBetween.mono _ _ _ _ _
      | exact spec_PassDebt.mono _ _ _ _ _ _ _
      | exact spec_PayDebt.mono _ _ _ _ _ _
      | exact spec_SameDebts.mono _ _ _
      | exact LeO.none _
      | refine LeO.ite ?_ ?_
      | refine LeO.bind ?_ (fun _ => ?_)
    · intro y0 y1 y2 y3 y4
      unfold laws_FnPaid.l3
      repeat' first
      | (with_reducible exact ih0 _ _ _ _ _ _ _ _ _ _ _)
      | (with_reducible exact ih1 _ _ _ _ _ _ _)
      | (with_reducible exact ih2 _ _ _ _ _ _)
      | (with_reducible exact ih3 _ _ _)
      | (with_reducible exact ih4 _ _ _ _ _)
      | (with_reducible exact ih5 _ _ _ _ _)
      | (with_reducible exact ih6 _ _ _ _ _)
      | (with_reducible exact ih7 _ _ _ _ _ _)
      | (with_reducible exact ih8 _ _ _ _ _ _)
      | (with_reducible exact ih9 _ _ _ _ _)
      | (with_reducible exact ih10 _ _ _ _ _ _ _)
      | (with_reducible exact impl_CanPayFrom.mono _ _ _ _)
      | (with_reducible exact impl_NetsOf.mono _ _ _)
      | (with_reducible exact impl_OwedBetween.mono _ _ _ _ _)
      | (with_reducible exact impl_PassDebt.mono _ _ _ _ _ _ _)
      | (with_reducible exact impl_PayDebt.mono _ _ _ _ _ _)
      | (with_reducible exact spec_A2Debts.mono _ _)
      | (with_reducible exact spec_A2Has.mono _ _ _)
      | (with_reducible exact spec_A2Same.mono _ _ _)
      | (with_reducible exact spec_CanPayFrom.mono _ _ _ _)
      | (with_reducible exact spec_NetsOf.mono _ _ _)
      | (with_reducible exact spec_OwedBetween.mono _ _ _ _ _)
      | (with_reducible exact spec_PassDebt.mono _ _ _ _ _ _ _)
      | (with_reducible exact spec_PayDebt.mono _ _ _ _ _ _)
      | (with_reducible exact spec_SameDebts.mono _ _ _)
      | (with_reducible exact LeO.refl _)
      | (with_reducible exact LeO.none _)
      | (with_reducible refine LeO.ite ?_ ?_)
      | (with_reducible refine LeO.bind ?_ (fun _ => ?_))
      | exact ih0 _ _ _ _ _ _ _ _ _ _ _
      | exact ih1 _ _ _ _ _ _ _
      | exact ih2 _ _ _ _ _ _
      | exact ih3 _ _ _
      | exact ih4 _ _ _ _ _
      | exact ih5 _ _ _ _ _
      | exact ih6 _ _ _ _ _
      | exact ih7 _ _ _ _ _ _
      | exact ih8 _ _ _ _ _ _
      | exact ih9 _ _ _ _ _
      | exact ih10 _ _ _ _ _ _ _
      | exact impl_CanPayFrom.mono _ _ _ _
      | exact impl_NetsOf.mono _ _ _
      | exact impl_OwedBetween.mono _ _ _ _ _
      | exact impl_PassDebt.mono _ _ _ _ _ _ _
      | exact impl_PayDebt.mono _ _ _ _ _ _
      | exact spec_A2Debts.mono _ _
      | exact spec_A2Has.mono _ _ _
      | exact spec_A2Same.mono _ _ _
      | exact spec_CanPayFrom.mono _ _ _ _
      | exact spec_NetsOf.mono _ _ _
      | exact spec_OwedBetween.mono _ _ _ _ _
      | exact spec_PassDebt.mono _ _ _ _ _ _ _
      | exact spec_PayDebt.mono _ _ _ _ _ _
      | exact spec_SameDebts.mono _ _ _
      | exact LeO.none _
      | refine LeO.ite ?_ ?_
      | refine LeO.bind ?_ (fun _ => ?_)
    · intro y0 y1 y2 y3 y4 y5 y6
      unfold laws_FnPaid.l4
      repeat' first
      | (with_reducible exact ih0 _ _ _ _ _ _ _ _ _ _ _)
      | (with_reducible exact ih1 _ _ _ _ _ _ _)
      | (with_reducible exact ih2 _ _ _ _ _ _)
      | (with_reducible exact ih3 _ _ _)
      | (with_reducible exact ih4 _ _ _ _ _)
      | (with_reducible exact ih5 _ _ _ _ _)
      | (with_reducible exact ih6 _ _ _ _ _)
      | (with_reducible exact ih7 _ _ _ _ _ _)
      | (with_reducible exact ih8 _ _ _ _ _ _)
      | (with_reducible exact ih9 _ _ _ _ _)
      | (with_reducible exact ih10 _ _ _ _ _ _ _)
      | (with_reducible exact impl_CanPayFrom.mono _ _ _ _)
      | (with_reducible exact impl_NetsOf.mono _ _ _)
      | (with_reducible exact impl_OwedBetween.mono _ _ _ _ _)
      | (with_reducible exact impl_PassDebt.mono _ _ _ _ _ _ _)
      | (with_reducible exact impl_PayDebt.mono _ _ _ _ _ _)
      | (with_reducible exact spec_A2Debts.mono _ _)
      | (with_reducible exact spec_A2Has.mono _ _ _)
      | (with_reducible exact spec_A2Same.mono _ _ _)
      | (with_reducible exact spec_CanPayFrom.mono _ _ _ _)
      | (with_reducible exact spec_NetsOf.mono _ _ _)
      | (with_reducible exact spec_OwedBetween.mono _ _ _ _ _)
      | (with_reducible exact spec_PassDebt.mono _ _ _ _ _ _ _)
      | (with_reducible exact spec_PayDebt.mono _ _ _ _ _ _)
      | (with_reducible exact spec_SameDebts.mono _ _ _)
      | (with_reducible exact LeO.refl _)
      | (with_reducible exact LeO.none _)
      | (with_reducible refine LeO.ite ?_ ?_)
      | (with_reducible refine LeO.bind ?_ (fun _ => ?_))
      | exact ih0 _ _ _ _ _ _ _ _ _ _ _
      | exact ih1 _ _ _ _ _ _ _
      | exact ih2 _ _ _ _ _ _
      | exact ih3 _ _ _
      | exact ih4 _ _ _ _ _
      | exact ih5 _ _ _ _ _
      | exact ih6 _ _ _ _ _
      | exact ih7 _ _ _ _ _ _
      | exact ih8 _ _ _ _ _ _
      | exact ih9 _ _ _ _ _
      | exact ih10 _ _ _ _ _ _ _
      | exact impl_CanPayFrom.mono _ _ _ _
      | exact impl_NetsOf.mono _ _ _
      | exact impl_OwedBetween.mono _ _ _ _ _
      | exact impl_PassDebt.mono _ _ _ _ _ _ _
      | exact impl_PayDebt.mono _ _ _ _ _ _
      | exact spec_A2Debts.mono _ _
      | exact spec_A2Has.mono _ _ _
      | exact spec_A2Same.mono _ _ _
      | exact spec_CanPayFrom.mono _ _ _ _
      | exact spec_NetsOf.mono _ _ _
      | exact spec_OwedBetween.mono _ _ _ _ _
      | exact spec_PassDebt.mono _ _ _ _ _ _ _
      | exact spec_PayDebt.mono _ _ _ _ _ _
      | exact spec_SameDebts.mono _ _ _
      | exact LeO.none _
      | refine LeO.ite ?_ ?_
      | refine LeO.bind ?_ (fun _ => ?_)
theorem laws_FnPaid.mono : ∀ a0 a1 k, LeO (laws_FnPaid.f k a0 a1) (laws_FnPaid.f (k + 1) a0 a1) := by
  intro a0 a1 k; obtain ⟨ih0, ih1, ih2, ih3, ih4, ih5, ih6, ih7, ih8, ih9, ih10⟩ := laws_FnPaid.mono_l k; unfold laws_FnPaid.f
  repeat' first
      | (with_reducible exact ih0 _ _ _ _ _ _ _ _ _ _ _)
      | (with_reducible exact ih1 _ _ _ _ _ _ _)
      | (with_reducible exact ih2 _ _ _ _ _ _)
      | (with_reducible exact ih3 _ _ _)
      | (with_reducible exact ih4 _ _ _ _ _)
      | (with_reducible exact ih5 _ _ _ _ _)
      | (with_reducible exact ih6 _ _ _ _ _)
      | (with_reducible exact ih7 _ _ _ _ _ _)
      | (with_reducible exact ih8 _ _ _ _ _ _)
      | (with_reducible exact ih9 _ _ _ _ _)
      | (with_reducible exact ih10 _ _ _ _ _ _ _)
      | (with_reducible exact impl_CanPayFrom.mono _ _ _ _)
      | (with_reducible exact impl_NetsOf.mono _ _ _)
      | (with_reducible exact impl_OwedBetween.mono _ _ _ _ _)
      | (with_reducible exact impl_PassDebt.mono _ _ _ _ _ _ _)
      | (with_reducible exact impl_PayDebt.mono _ _ _ _ _ _)
      | (with_reducible exact spec_A2Debts.mono _ _)
      | (with_reducible exact spec_A2Has.mono _ _ _)
      | (with_reducible exact spec_A2Same.mono _ _ _)
      | (with_reducible exact spec_CanPayFrom.mono _ _ _ _)
      | (with_reducible exact spec_NetsOf.mono _ _ _)
      | (with_reducible exact spec_OwedBetween.mono _ _ _ _ _)
      | (with_reducible exact spec_PassDebt.mono _ _ _ _ _ _ _)
      | (with_reducible exact spec_PayDebt.mono _ _ _ _ _ _)
      | (with_reducible exact spec_SameDebts.mono _ _ _)
      | (with_reducible exact LeO.refl _)
      | (with_reducible exact LeO.none _)
      | (with_reducible refine LeO.ite ?_ ?_)
      | (with_reducible refine LeO.bind ?_ (fun _ => ?_))
      | exact ih0 _ _ _ _ _ _ _ _ _ _ _
      | exact ih1 _ _ _ _ _ _ _
      | exact ih2 _ _ _ _ _ _
      | exact ih3 _ _ _
      | exact ih4 _ _ _ _ _
      | exact ih5 _ _ _ _ _
      | exact ih6 _ _ _ _ _
      | exact ih7 _ _ _ _ _ _
      | exact ih8 _ _ _ _ _ _
      | exact ih9 _ _ _ _ _
      | exact ih10 _ _ _ _ _ _ _
      | exact impl_CanPayFrom.mono _ _ _ _
      | exact impl_NetsOf.mono _ _ _
      | exact impl_OwedBetween.mono _ _ _ _ _
      | exact impl_PassDebt.mono _ _ _ _ _ _ _
      | exact impl_PayDebt.mono _ _ _ _ _ _
      | exact spec_A2Debts.mono _ _
      | exact spec_A2Has.mono _ _ _
      | exact spec_A2Same.mono _ _ _
      | exact spec_CanPayFrom.mono _ _ _ _
      | exact spec_NetsOf.mono _ _ _
      | exact spec_OwedBetween.mono _ _ _ _ _
      | exact spec_PassDebt.mono _ _ _ _ _ _ _
      | exact spec_PayDebt.mono _ _ _ _ _ _
      | exact spec_SameDebts.mono _ _ _
      | exact LeO.none _
      | refine LeO.ite ?_ ?_
      | refine LeO.bind ?_ (fun _ => ?_)
set_option maxHeartbeats 8000000 in
set_option maxRecDepth 100000 in
theorem laws_FnPaid.calls (k : Nat) (A0 : Option Addr) (c0 : Nat) (l0 : List Int) (A1 : Option Addr) (c1 : Nat) (l1 : List Int) (r : Bool) (w : World) (hr0 : Kd.C (Kd.int .u8) w A0 l0.length l0) (hc0 : l0.length ≤ c0) (hr1 : Kd.C (Kd.int .u8) w A1 l1.length l1) (hc1 : l1.length ≤ c1) (h : laws_FnPaid.f k l0 l1 = some r) (ht : r = true) :
    Calls Try.prog 14 #[.slice A0 l0.length c0, .slice A1 l1.length c1] w fun e w' => e = .returned (.bool r) ∧ Below w.heap.size w w' := by
  have HR0 := Aside0.mk hr0; have HC0 := Aside0.mk hc0; clear hr0 hc0; have HR1 := Aside0.mk hr1; have HC1 := Aside0.mk hc1; clear hr1 hc1; have HB := Aside0.mk (Below.refl w.heap.size w); have H : ((laws_a2Long.f l0 l1).bind fun t378 => (if t378 = true then (some true) else ((spec_A2Debts.f k l0).bind fun bt379 => ((laws_a2At.f l1 0 bt379.1).bind fun t383 => ((laws_a2At.f l1 1 bt379.1).bind fun t384 => ((laws_a2At.f l1 2 bt379.1).bind fun t385 => ((laws_a2At.f l1 3 30).bind fun t386 => ((spec_OwedBetween.f k bt379.1 bt379.2 t383 t384).bind fun bt387 => ((impl_PayDebt.f k bt379.1 bt379.2 t383 t384 (wrap64 (1 + t386))).bind fun bt389 => ((spec_PayDebt.f k bt379.1 bt379.2 t383 t384 (wrap64 (1 + t386))).bind fun bt393 => (if bt387.2 = 0 then (if bt389.2 = bt393.2 then ((spec_SameDebts.f k bt389.1 bt393.1).bind fun t397 => (if t397 = true then (laws_FnPaid.j0 k l1 bt379.1 bt379.2 t383 t384 t385 (wrap64 (1 + t386)) bt387.1 bt389.2 bt393.1 ((bt389.2 == 0) != (decide ((wrap64 (1 + t386)) ≤ bt387.1)))) else (laws_FnPaid.j0 k l1 bt379.1 bt379.2 t383 t384 t385 (wrap64 (1 + t386)) bt387.1 bt389.2 bt393.1 true))) else (laws_FnPaid.j0 k l1 bt379.1 bt379.2 t383 t384 t385 (wrap64 (1 + t386)) bt387.1 bt389.2 bt393.1 true)) else (laws_FnPaid.j0 k l1 bt379.1 bt379.2 t383 t384 t385 (wrap64 (1 + t386)) bt387.1 bt389.2 bt393.1 true)))))))))))) = some r := h; clear h; replace H := Option.bind_eq_some_iff.mp H; obtain ⟨t378, A30, H⟩ := H; replace H : (if t378 = true then (some true) else ((spec_A2Debts.f k l0).bind fun bt379 => ((laws_a2At.f l1 0 bt379.1).bind fun t383 => ((laws_a2At.f l1 1 bt379.1).bind fun t384 => ((laws_a2At.f l1 2 bt379.1).bind fun t385 => ((laws_a2At.f l1 3 30).bind fun t386 => ((spec_OwedBetween.f k bt379.1 bt379.2 t383 t384).bind fun bt387 => ((impl_PayDebt.f k bt379.1 bt379.2 t383 t384 (wrap64 (1 + t386))).bind fun bt389 => ((spec_PayDebt.f k bt379.1 bt379.2 t383 t384 (wrap64 (1 + t386))).bind fun bt393 => (if bt387.2 = 0 then (if bt389.2 = bt393.2 then ((spec_SameDebts.f k bt389.1 bt393.1).bind fun t397 => (if t397 = true then (laws_FnPaid.j0 k l1 bt379.1 bt379.2 t383 t384 t385 (wrap64 (1 + t386)) bt387.1 bt389.2 bt393.1 ((bt389.2 == 0) != (decide ((wrap64 (1 + t386)) ≤ bt387.1)))) else (laws_FnPaid.j0 k l1 bt379.1 bt379.2 t383 t384 t385 (wrap64 (1 + t386)) bt387.1 bt389.2 bt393.1 true))) else (laws_FnPaid.j0 k l1 bt379.1 bt379.2 t383 t384 t385 (wrap64 (1 + t386)) bt387.1 bt389.2 bt393.1 true)) else (laws_FnPaid.j0 k l1 bt379.1 bt379.2 t383 t384 t385 (wrap64 (1 + t386)) bt387.1 bt389.2 bt393.1 true))))))))))) = some r := H; have A3 := Aside0.mk A30; clear A30; by_cases c4 : t378 = true
  · subst c4; (have H1 : (some true) = some r := z41_); clear H; have H := H1; clear H1
    as_aux_lemma =>
      obtain rfl := Option.some.inj H; go_enter Try.func14, Try.ntmps14; go_wp2_with (first | (go_at_call 44; (with_reducible refine (laws_a2Long.calls _ _ l0 _ _ l1 true _ ?side1 ?side2 ?side3 ?side4 A3.out).mono ?_); (case side1 => repeat (first | exact HR0.out | (with_reducible refine Kd.C_alloc ?_ _) | (with_reducible refine Kd.C_drewN ?_ _) | (with_reducible refine Kd.C_drew ?_))); (case side2 => exact HC0.out); (case side3 => repeat (first | exact HR1.out | (with_reducible refine Kd.C_alloc ?_ _) | (with_reducible refine Kd.C_drewN ?_ _) | (with_reducible refine Kd.C_drew ?_))); (case side4 => exact HC1.out); rintro e w' ⟨rfl, ⟨nd, rfl⟩⟩; (try first | exact ⟨rfl, _, World.drewN_drewN _ _ _⟩ | exact ⟨rfl, _, Eq.trans (World.drewN_drewN _ _ _) (congrArg (World.drewN _) (Nat.add_assoc _ _ _))⟩))); (repeat (go_quiet (first | (go_at_call 44; (with_reducible refine (laws_a2Long.calls _ _ l0 _ _ l1 true _ ?side1 ?side2 ?side3 ?side4 A3.out).mono ?_); (case side1 => repeat (first | exact HR0.out | (with_reducible refine Kd.C_alloc ?_ _) | (with_reducible refine Kd.C_drewN ?_ _) | (with_reducible refine Kd.C_drew ?_))); (case side2 => exact HC0.out); (case side3 => repeat (first | exact HR1.out | (with_reducible refine Kd.C_alloc ?_ _) | (with_reducible refine Kd.C_drewN ?_ _) | (with_reducible refine Kd.C_drew ?_))); (case side4 => exact HC1.out); rintro e w' ⟨rfl, ⟨nd, rfl⟩⟩; (try first | exact ⟨rfl, _, World.drewN_drewN _ _ _⟩ | exact ⟨rfl, _, Eq.trans (World.drewN_drewN _ _ _) (congrArg (World.drewN _) (Nat.add_assoc _ _ _))⟩))); try go_wp2_with (first | (go_at_call 44; (with_reducible refine (laws_a2Long.calls _ _ l0 _ _ l1 true _ ?side1 ?side2 ?side3 ?side4 A3.out).mono ?_); (case side1 => repeat (first | exact HR0.out | (with_reducible refine Kd.C_alloc ?_ _) | (with_reducible refine Kd.C_drewN ?_ _) | (with_reducible refine Kd.C_drew ?_))); (case side2 => exact HC0.out); (case side3 => repeat (first | exact HR1.out | (with_reducible refine Kd.C_alloc ?_ _) | (with_reducible refine Kd.C_drewN ?_ _) | (with_reducible refine Kd.C_drew ?_))); (case side4 => exact HC1.out); rintro e w' ⟨rfl, ⟨nd, rfl⟩⟩; (try first | exact ⟨rfl, _, World.drewN_drewN _ _ _⟩ | exact ⟨rfl, _, Eq.trans (World.drewN_drewN _ _ _) (congrArg (World.drewN _) (Nat.add_assoc _ _ _))⟩))))); go_ret; exact ⟨z3_, z0_⟩
  replace c4 := Bool.eq_false_iff.mpr c4; subst c4; (have H1 : ((spec_A2Debts.f k l0).bind fun bt379 => ((laws_a2At.f l1 0 bt379.1).bind fun t383 => ((laws_a2At.f l1 1 bt379.1).bind fun t384 => ((laws_a2At.f l1 2 bt379.1).bind fun t385 => ((laws_a2At.f l1 3 30).bind fun t386 => ((spec_OwedBetween.f k bt379.1 bt379.2 t383 t384).bind fun bt387 => ((impl_PayDebt.f k bt379.1 bt379.2 t383 t384 (wrap64 (1 + t386))).bind fun bt389 => ((spec_PayDebt.f k bt379.1 bt379.2 t383 t384 (wrap64 (1 + t386))).bind fun bt393 => (if bt387.2 = 0 then (if bt389.2 = bt393.2 then ((spec_SameDebts.f k bt389.1 bt393.1).bind fun t397 => (if t397 = true then (laws_FnPaid.j0 k l1 bt379.1 bt379.2 t383 t384 t385 (wrap64 (1 + t386)) bt387.1 bt389.2 bt393.1 ((bt389.2 == 0) != (decide ((wrap64 (1 + t386)) ≤ bt387.1)))) else (laws_FnPaid.j0 k l1 bt379.1 bt379.2 t383 t384 t385 (wrap64 (1 + t386)) bt387.1 bt389.2 bt393.1 true))) else (laws_FnPaid.j0 k l1 bt379.1 bt379.2 t383 t384 t385 (wrap64 (1 + t386)) bt387.1 bt389.2 bt393.1 true)) else (laws_FnPaid.j0 k l1 bt379.1 bt379.2 t383 t384 t385 (wrap64 (1 + t386)) bt387.1 bt389.2 bt393.1 true)))))))))) = some r := z18_); clear H; have H := H1; clear H1; replace H := Option.bind_eq_some_iff.mp H; obtain ⟨⟨t379, t380⟩, A50, H⟩ := H; replace H : ((laws_a2At.f l1 0 t379).bind fun t383 => ((laws_a2At.f l1 1 t379).bind fun t384 => ((laws_a2At.f l1 2 t379).bind fun t385 => ((laws_a2At.f l1 3 30).bind fun t386 => ((spec_OwedBetween.f k t379 t380 t383 t384).bind fun bt387 => ((impl_PayDebt.f k t379 t380 t383 t384 (wrap64 (1 + t386))).bind fun bt389 => ((spec_PayDebt.f k t379 t380 t383 t384 (wrap64 (1 + t386))).bind fun bt393 => (if bt387.2 = 0 then (if bt389.2 = bt393.2 then ((spec_SameDebts.f k bt389.1 bt393.1).bind fun t397 => (if t397 = true then (laws_FnPaid.j0 k l1 t379 t380 t383 t384 t385 (wrap64 (1 + t386)) bt387.1 bt389.2 bt393.1 ((bt389.2 == 0) != (decide ((wrap64 (1 + t386)) ≤ bt387.1)))) else (laws_FnPaid.j0 k l1 t379 t380 t383 t384 t385 (wrap64 (1 + t386)) bt387.1 bt389.2 bt393.1 true))) else (laws_FnPaid.j0 k l1 t379 t380 t383 t384 t385 (wrap64 (1 + t386)) bt387.1 bt389.2 bt393.1 true)) else (laws_FnPaid.j0 k l1 t379 t380 t383 t384 t385 (wrap64 (1 + t386)) bt387.1 bt389.2 bt393.1 true))))))))) = some r := H; have A5 := Aside0.mk A50; clear A50; replace H := Option.bind_eq_some_iff.mp H; obtain ⟨t383, A60, H⟩ := H; replace H : ((laws_a2At.f l1 1 t379).bind fun t384 => ((laws_a2At.f l1 2 t379).bind fun t385 => ((laws_a2At.f l1 3 30).bind fun t386 => ((spec_OwedBetween.f k t379 t380 t383 t384).bind fun bt387 => ((impl_PayDebt.f k t379 t380 t383 t384 (wrap64 (1 + t386))).bind fun bt389 => ((spec_PayDebt.f k t379 t380 t383 t384 (wrap64 (1 + t386))).bind fun bt393 => (if bt387.2 = 0 then (if bt389.2 = bt393.2 then ((spec_SameDebts.f k bt389.1 bt393.1).bind fun t397 => (if t397 = true then (laws_FnPaid.j0 k l1 t379 t380 t383 t384 t385 (wrap64 (1 + t386)) bt387.1 bt389.2 bt393.1 ((bt389.2 == 0) != (decide ((wrap64 (1 + t386)) ≤ bt387.1)))) else (laws_FnPaid.j0 k l1 t379 t380 t383 t384 t385 (wrap64 (1 + t386)) bt387.1 bt389.2 bt393.1 true))) else (laws_FnPaid.j0 k l1 t379 t380 t383 t384 t385 (wrap64 (1 + t386)) bt387.1 bt389.2 bt393.1 true)) else (laws_FnPaid.j0 k l1 t379 t380 t383 t384 t385 (wrap64 (1 + t386)) bt387.1 bt389.2 bt393.1 true)))))))) = some r := H; have A6 := Aside0.mk A60; clear A60; replace H := Option.bind_eq_some_iff.mp H; obtain ⟨t384, A70, H⟩ := H; replace H : ((laws_a2At.f l1 2 t379).bind fun t385 => ((laws_a2At.f l1 3 30).bind fun t386 => ((spec_OwedBetween.f k t379 t380 t383 t384).bind fun bt387 => ((impl_PayDebt.f k t379 t380 t383 t384 (wrap64 (1 + t386))).bind fun bt389 => ((spec_PayDebt.f k t379 t380 t383 t384 (wrap64 (1 + t386))).bind fun bt393 => (if bt387.2 = 0 then (if bt389.2 = bt393.2 then ((spec_SameDebts.f k bt389.1 bt393.1).bind fun t397 => (if t397 = true then (laws_FnPaid.j0 k l1 t379 t380 t383 t384 t385 (wrap64 (1 + t386)) bt387.1 bt389.2 bt393.1 ((bt389.2 == 0) != (decide ((wrap64 (1 + t386)) ≤ bt387.1)))) else (laws_FnPaid.j0 k l1 t379 t380 t383 t384 t385 (wrap64 (1 + t386)) bt387.1 bt389.2 bt393.1 true))) else (laws_FnPaid.j0 k l1 t379 t380 t383 t384 t385 (wrap64 (1 + t386)) bt387.1 bt389.2 bt393.1 true)) else (laws_FnPaid.j0 k l1 t379 t380 t383 t384 t385 (wrap64 (1 + t386)) bt387.1 bt389.2 bt393.1 true))))))) = some r := H; have A7 := Aside0.mk A70; clear A70; replace H := Option.bind_eq_some_iff.mp H; obtain ⟨t385, A80, H⟩ := H; replace H : ((laws_a2At.f l1 3 30).bind fun t386 => ((spec_OwedBetween.f k t379 t380 t383 t384).bind fun bt387 => ((impl_PayDebt.f k t379 t380 t383 t384 (wrap64 (1 + t386))).bind fun bt389 => ((spec_PayDebt.f k t379 t380 t383 t384 (wrap64 (1 + t386))).bind fun bt393 => (if bt387.2 = 0 then (if bt389.2 = bt393.2 then ((spec_SameDebts.f k bt389.1 bt393.1).bind fun t397 => (if t397 = true then (laws_FnPaid.j0 k l1 t379 t380 t383 t384 t385 (wrap64 (1 + t386)) bt387.1 bt389.2 bt393.1 ((bt389.2 == 0) != (decide ((wrap64 (1 + t386)) ≤ bt387.1)))) else (laws_FnPaid.j0 k l1 t379 t380 t383 t384 t385 (wrap64 (1 + t386)) bt387.1 bt389.2 bt393.1 true))) else (laws_FnPaid.j0 k l1 t379 t380 t383 t384 t385 (wrap64 (1 + t386)) bt387.1 bt389.2 bt393.1 true)) else (laws_FnPaid.j0 k l1 t379 t380 t383 t384 t385 (wrap64 (1 + t386)) bt387.1 bt389.2 bt393.1 true)))))) = some r := H; have A8 := Aside0.mk A80; clear A80; replace H := Option.bind_eq_some_iff.mp H; obtain ⟨t386, A90, H⟩ := H; replace H : ((spec_OwedBetween.f k t379 t380 t383 t384).bind fun bt387 => ((impl_PayDebt.f k t379 t380 t383 t384 (wrap64 (1 + t386))).bind fun bt389 => ((spec_PayDebt.f k t379 t380 t383 t384 (wrap64 (1 + t386))).bind fun bt393 => (if bt387.2 = 0 then (if bt389.2 = bt393.2 then ((spec_SameDebts.f k bt389.1 bt393.1).bind fun t397 => (if t397 = true then (laws_FnPaid.j0 k l1 t379 t380 t383 t384 t385 (wrap64 (1 + t386)) bt387.1 bt389.2 bt393.1 ((bt389.2 == 0) != (decide ((wrap64 (1 + t386)) ≤ bt387.1)))) else (laws_FnPaid.j0 k l1 t379 t380 t383 t384 t385 (wrap64 (1 + t386)) bt387.1 bt389.2 bt393.1 true))) else (laws_FnPaid.j0 k l1 t379 t380 t383 t384 t385 (wrap64 (1 + t386)) bt387.1 bt389.2 bt393.1 true)) else (laws_FnPaid.j0 k l1 t379 t380 t383 t384 t385 (wrap64 (1 + t386)) bt387.1 bt389.2 bt393.1 true))))) = some r := H; have A9 := Aside0.mk A90; clear A90; replace H := Option.bind_eq_some_iff.mp H; obtain ⟨⟨t387, t388⟩, A100, H⟩ := H; replace H : ((impl_PayDebt.f k t379 t380 t383 t384 (wrap64 (1 + t386))).bind fun bt389 => ((spec_PayDebt.f k t379 t380 t383 t384 (wrap64 (1 + t386))).bind fun bt393 => (if t388 = 0 then (if bt389.2 = bt393.2 then ((spec_SameDebts.f k bt389.1 bt393.1).bind fun t397 => (if t397 = true then (laws_FnPaid.j0 k l1 t379 t380 t383 t384 t385 (wrap64 (1 + t386)) t387 bt389.2 bt393.1 ((bt389.2 == 0) != (decide ((wrap64 (1 + t386)) ≤ t387)))) else (laws_FnPaid.j0 k l1 t379 t380 t383 t384 t385 (wrap64 (1 + t386)) t387 bt389.2 bt393.1 true))) else (laws_FnPaid.j0 k l1 t379 t380 t383 t384 t385 (wrap64 (1 + t386)) t387 bt389.2 bt393.1 true)) else (laws_FnPaid.j0 k l1 t379 t380 t383 t384 t385 (wrap64 (1 + t386)) t387 bt389.2 bt393.1 true)))) = some r := H; have A10 := Aside0.mk A100; clear A100; replace H := Option.bind_eq_some_iff.mp H; obtain ⟨⟨t389, t390⟩, A110, H⟩ := H; replace H : ((spec_PayDebt.f k t379 t380 t383 t384 (wrap64 (1 + t386))).bind fun bt393 => (if t388 = 0 then (if t390 = bt393.2 then ((spec_SameDebts.f k t389 bt393.1).bind fun t397 => (if t397 = true then (laws_FnPaid.j0 k l1 t379 t380 t383 t384 t385 (wrap64 (1 + t386)) t387 t390 bt393.1 ((t390 == 0) != (decide ((wrap64 (1 + t386)) ≤ t387)))) else (laws_FnPaid.j0 k l1 t379 t380 t383 t384 t385 (wrap64 (1 + t386)) t387 t390 bt393.1 true))) else (laws_FnPaid.j0 k l1 t379 t380 t383 t384 t385 (wrap64 (1 + t386)) t387 t390 bt393.1 true)) else (laws_FnPaid.j0 k l1 t379 t380 t383 t384 t385 (wrap64 (1 + t386)) t387 t390 bt393.1 true))) = some r := H; have A11 := Aside0.mk A110; clear A110; replace H := Option.bind_eq_some_iff.mp H; obtain ⟨⟨t393, t394⟩, A120, H⟩ := H; replace H : (if t388 = 0 then (if t390 = t394 then ((spec_SameDebts.f k t389 t393).bind fun t397 => (if t397 = true then (laws_FnPaid.j0 k l1 t379 t380 t383 t384 t385 (wrap64 (1 + t386)) t387 t390 t393 ((t390 == 0) != (decide ((wrap64 (1 + t386)) ≤ t387)))) else (laws_FnPaid.j0 k l1 t379 t380 t383 t384 t385 (wrap64 (1 + t386)) t387 t390 t393 true))) else (laws_FnPaid.j0 k l1 t379 t380 t383 t384 t385 (wrap64 (1 + t386)) t387 t390 t393 true)) else (laws_FnPaid.j0 k l1 t379 t380 t383 t384 t385 (wrap64 (1 + t386)) t387 t390 t393 true)) = some r := H; have A12 := Aside0.mk A120; clear A120; have HC13 := Aside0.mk H; clear H; go_enter Try.func14, Try.ntmps14; go_upto_region 11 with (first | (go_at_call 44; (with_reducible refine (laws_a2Long.calls _ _ l0 _ _ l1 false _ ?side1 ?side2 ?side3 ?side4 A3.out).mono ?_); (case side1 => repeat (first | exact HR0.out | (with_reducible refine Kd.C_alloc ?_ _) | (with_reducible refine Kd.C_drewN ?_ _) | (with_reducible refine Kd.C_drew ?_))); (case side2 => exact HC0.out); (case side3 => repeat (first | exact HR1.out | (with_reducible refine Kd.C_alloc ?_ _) | (with_reducible refine Kd.C_drewN ?_ _) | (with_reducible refine Kd.C_drew ?_))); (case side4 => exact HC1.out); rintro e w' ⟨rfl, ⟨nd, rfl⟩⟩; (try first | exact ⟨rfl, _, World.drewN_drewN _ _ _⟩ | exact ⟨rfl, _, Eq.trans (World.drewN_drewN _ _ _) (congrArg (World.drewN _) (Nat.add_assoc _ _ _))⟩)) | (go_at_call 45; (with_reducible refine (spec_A2Debts.calls k _ _ l0 t379 t380 _ ?side1 ?side2 A5.out).mono ?_); (case side1 => repeat (first | exact HR0.out | (with_reducible refine Kd.C_alloc ?_ _) | (with_reducible refine Kd.C_drewN ?_ _) | (with_reducible refine Kd.C_drew ?_))); (case side2 => exact HC0.out); rintro e w14 ⟨v381, rfl, ho0, hb⟩; have n0_ := Aside0.mk (Kd.R_lower ho0 (below_size z0_)); have n1_ := Aside0.mk (below_step z0_ hb); clear HB; have HO382 := n0_; have HB := n1_; clear n0_ n1_; (try clear hb); (try clear hb2); (try clear hk); (try clear hi); (try clear ho0)) | (go_at_call 51; (with_reducible refine (laws_a2At.calls _ _ l1 0 t379 t383 _ ?side1 ?side2 A6.out).mono ?_); (case side1 => repeat (first | exact (Kd.C_below HR1.out HB.out) | (with_reducible refine Kd.C_alloc ?_ _) | (with_reducible refine Kd.C_drewN ?_ _) | (with_reducible refine Kd.C_drew ?_))); (case side2 => exact HC1.out); rintro e w' ⟨rfl, ⟨nd, rfl⟩⟩; (try first | exact ⟨rfl, _, World.drewN_drewN _ _ _⟩ | exact ⟨rfl, _, Eq.trans (World.drewN_drewN _ _ _) (congrArg (World.drewN _) (Nat.add_assoc _ _ _))⟩)) | (go_at_call 51; (with_reducible refine (laws_a2At.calls _ _ l1 1 t379 t384 _ ?side1 ?side2 A7.out).mono ?_); (case side1 => repeat (first | exact (Kd.C_below HR1.out z0_) | (with_reducible refine Kd.C_alloc ?_ _) | (with_reducible refine Kd.C_drewN ?_ _) | (with_reducible refine Kd.C_drew ?_))); (case side2 => exact HC1.out); rintro e w' ⟨rfl, ⟨nd, rfl⟩⟩; (try first | exact ⟨rfl, _, World.drewN_drewN _ _ _⟩ | exact ⟨rfl, _, Eq.trans (World.drewN_drewN _ _ _) (congrArg (World.drewN _) (Nat.add_assoc _ _ _))⟩)) | (go_at_call 51; (with_reducible refine (laws_a2At.calls _ _ l1 2 t379 t385 _ ?side1 ?side2 A8.out).mono ?_); (case side1 => repeat (first | exact (Kd.C_below HR1.out z0_) | (with_reducible refine Kd.C_alloc ?_ _) | (with_reducible refine Kd.C_drewN ?_ _) | (with_reducible refine Kd.C_drew ?_))); (case side2 => exact HC1.out); rintro e w' ⟨rfl, ⟨nd, rfl⟩⟩; (try first | exact ⟨rfl, _, World.drewN_drewN _ _ _⟩ | exact ⟨rfl, _, Eq.trans (World.drewN_drewN _ _ _) (congrArg (World.drewN _) (Nat.add_assoc _ _ _))⟩)) | (go_at_call 51; (with_reducible refine (laws_a2At.calls _ _ l1 3 30 t386 _ ?side1 ?side2 A9.out).mono ?_); (case side1 => repeat (first | exact (Kd.C_below HR1.out z0_) | (with_reducible refine Kd.C_alloc ?_ _) | (with_reducible refine Kd.C_drewN ?_ _) | (with_reducible refine Kd.C_drew ?_))); (case side2 => exact HC1.out); rintro e w' ⟨rfl, ⟨nd, rfl⟩⟩; (try first | exact ⟨rfl, _, World.drewN_drewN _ _ _⟩ | exact ⟨rfl, _, Eq.trans (World.drewN_drewN _ _ _) (congrArg (World.drewN _) (Nat.add_assoc _ _ _))⟩); obtain ⟨Ao15, co15, eo15⟩ := Kd.R_slice HO382.out; subst eo15) | (go_at_call 16; (with_reducible refine (spec_OwedBetween.calls k t379 _ _ t380 t383 t384 t387 t388 _ ?side1 ?side2 A10.out).mono ?_); (case side1 => repeat (first | exact (Kd.R_reads' HO382.out).2.2 | (with_reducible refine Kd.C_alloc ?_ _) | (with_reducible refine Kd.C_drewN ?_ _) | (with_reducible refine Kd.C_drew ?_))); (case side2 => exact (Kd.R_reads' HO382.out).2.1); rintro e w16 ⟨rfl, hb⟩; have n0_ := Aside0.mk (Kd.R_below z27_ hb); have n1_ := Aside0.mk (below_step z0_ hb); clear HO382; clear HB; have HO382 := n0_; have HB := n1_; clear n0_ n1_; (try clear hb); (try clear hb2); (try clear hk); (try clear hi)) | (go_at_call 37; (with_reducible refine (impl_PayDebt.calls k t379 _ _ t380 t383 t384 (wrap64 (1 + t386)) t389 t390 _ ?side1 ?side2 A11.out).mono ?_); (case side1 => repeat (first | exact (Kd.R_reads' HO382.out).2.2 | (with_reducible refine Kd.C_alloc ?_ _) | (with_reducible refine Kd.C_drewN ?_ _) | (with_reducible refine Kd.C_drew ?_))); (case side2 => exact (Kd.R_reads' HO382.out).2.1); rintro e w17 ⟨v391, rfl, ho0, hb⟩; have n0_ := Aside0.mk (Kd.R_elder' z27_ (Kd.R_base ho0) hb); have n1_ := Aside0.mk (Kd.R_lower (Kd.R_new' ho0 (Kd.R_lt z27_)) (below_size z0_)); have n2_ := Aside0.mk (below_step z0_ hb); clear HO382; clear HB; have HO382 := n0_; have HO392 := n1_; have HB := n2_; clear n0_ n1_ n2_; (try clear hb); (try clear hb2); (try clear hk); (try clear hi); (try clear ho0)) | (go_at_call 36; (with_reducible refine (spec_PayDebt.calls k t379 _ _ t380 t383 t384 (wrap64 (1 + t386)) t393 t394 _ ?side1 ?side2 A12.out).mono ?_); (case side1 => repeat (first | exact (Kd.R_reads' HO382.out).2.2 | (with_reducible refine Kd.C_alloc ?_ _) | (with_reducible refine Kd.C_drewN ?_ _) | (with_reducible refine Kd.C_drew ?_))); (case side2 => exact (Kd.R_reads' HO382.out).2.1); rintro e w18 ⟨v395, rfl, ho0, hb⟩; have n0_ := Aside0.mk (Kd.R_elder' z27_ (Kd.R_base ho0) hb); have n1_ := Aside0.mk (Kd.R_elder' z53_ (Kd.R_base ho0) hb); have n2_ := Aside0.mk (Kd.R_lower (Kd.R_new' (Kd.R_new' ho0 (Kd.R_lt z27_)) (Kd.R_lt z53_)) (below_size z0_)); have n3_ := Aside0.mk (below_step z0_ hb); clear HO382; clear HO392; clear HB; have HO382 := n0_; have HO392 := n1_; have HO396 := n2_; have HB := n3_; clear n0_ n1_ n2_ n3_; (try clear hb); (try clear hb2); (try clear hk); (try clear hi); (try clear ho0))); (repeat (go_quiet (first | (go_at_call 44; (with_reducible refine (laws_a2Long.calls _ _ l0 _ _ l1 false _ ?side1 ?side2 ?side3 ?side4 A3.out).mono ?_); (case side1 => repeat (first | exact HR0.out | (with_reducible refine Kd.C_alloc ?_ _) | (with_reducible refine Kd.C_drewN ?_ _) | (with_reducible refine Kd.C_drew ?_))); (case side2 => exact HC0.out); (case side3 => repeat (first | exact HR1.out | (with_reducible refine Kd.C_alloc ?_ _) | (with_reducible refine Kd.C_drewN ?_ _) | (with_reducible refine Kd.C_drew ?_))); (case side4 => exact HC1.out); rintro e w' ⟨rfl, ⟨nd, rfl⟩⟩; (try first | exact ⟨rfl, _, World.drewN_drewN _ _ _⟩ | exact ⟨rfl, _, Eq.trans (World.drewN_drewN _ _ _) (congrArg (World.drewN _) (Nat.add_assoc _ _ _))⟩)) | (go_at_call 45; (with_reducible refine (spec_A2Debts.calls k _ _ l0 t379 t380 _ ?side1 ?side2 A5.out).mono ?_); (case side1 => repeat (first | exact HR0.out | (with_reducible refine Kd.C_alloc ?_ _) | (with_reducible refine Kd.C_drewN ?_ _) | (with_reducible refine Kd.C_drew ?_))); (case side2 => exact HC0.out); rintro e w14 ⟨v381, rfl, ho0, hb⟩; have n0_ := Aside0.mk (Kd.R_lower ho0 (below_size z0_)); have n1_ := Aside0.mk (below_step z0_ hb); clear HB; have HO382 := n0_; have HB := n1_; clear n0_ n1_; (try clear hb); (try clear hb2); (try clear hk); (try clear hi); (try clear ho0)) | (go_at_call 51; (with_reducible refine (laws_a2At.calls _ _ l1 0 t379 t383 _ ?side1 ?side2 A6.out).mono ?_); (case side1 => repeat (first | exact (Kd.C_below HR1.out HB.out) | (with_reducible refine Kd.C_alloc ?_ _) | (with_reducible refine Kd.C_drewN ?_ _) | (with_reducible refine Kd.C_drew ?_))); (case side2 => exact HC1.out); rintro e w' ⟨rfl, ⟨nd, rfl⟩⟩; (try first | exact ⟨rfl, _, World.drewN_drewN _ _ _⟩ | exact ⟨rfl, _, Eq.trans (World.drewN_drewN _ _ _) (congrArg (World.drewN _) (Nat.add_assoc _ _ _))⟩)) | (go_at_call 51; (with_reducible refine (laws_a2At.calls _ _ l1 1 t379 t384 _ ?side1 ?side2 A7.out).mono ?_); (case side1 => repeat (first | exact (Kd.C_below HR1.out z0_) | (with_reducible refine Kd.C_alloc ?_ _) | (with_reducible refine Kd.C_drewN ?_ _) | (with_reducible refine Kd.C_drew ?_))); (case side2 => exact HC1.out); rintro e w' ⟨rfl, ⟨nd, rfl⟩⟩; (try first | exact ⟨rfl, _, World.drewN_drewN _ _ _⟩ | exact ⟨rfl, _, Eq.trans (World.drewN_drewN _ _ _) (congrArg (World.drewN _) (Nat.add_assoc _ _ _))⟩)) | (go_at_call 51; (with_reducible refine (laws_a2At.calls _ _ l1 2 t379 t385 _ ?side1 ?side2 A8.out).mono ?_); (case side1 => repeat (first | exact (Kd.C_below HR1.out z0_) | (with_reducible refine Kd.C_alloc ?_ _) | (with_reducible refine Kd.C_drewN ?_ _) | (with_reducible refine Kd.C_drew ?_))); (case side2 => exact HC1.out); rintro e w' ⟨rfl, ⟨nd, rfl⟩⟩; (try first | exact ⟨rfl, _, World.drewN_drewN _ _ _⟩ | exact ⟨rfl, _, Eq.trans (World.drewN_drewN _ _ _) (congrArg (World.drewN _) (Nat.add_assoc _ _ _))⟩)) | (go_at_call 51; (with_reducible refine (laws_a2At.calls _ _ l1 3 30 t386 _ ?side1 ?side2 A9.out).mono ?_); (case side1 => repeat (first | exact (Kd.C_below HR1.out z0_) | (with_reducible refine Kd.C_alloc ?_ _) | (with_reducible refine Kd.C_drewN ?_ _) | (with_reducible refine Kd.C_drew ?_))); (case side2 => exact HC1.out); rintro e w' ⟨rfl, ⟨nd, rfl⟩⟩; (try first | exact ⟨rfl, _, World.drewN_drewN _ _ _⟩ | exact ⟨rfl, _, Eq.trans (World.drewN_drewN _ _ _) (congrArg (World.drewN _) (Nat.add_assoc _ _ _))⟩); obtain ⟨Ao15, co15, eo15⟩ := Kd.R_slice HO382.out; subst eo15) | (go_at_call 16; (with_reducible refine (spec_OwedBetween.calls k t379 _ _ t380 t383 t384 t387 t388 _ ?side1 ?side2 A10.out).mono ?_); (case side1 => repeat (first | exact (Kd.R_reads' HO382.out).2.2 | (with_reducible refine Kd.C_alloc ?_ _) | (with_reducible refine Kd.C_drewN ?_ _) | (with_reducible refine Kd.C_drew ?_))); (case side2 => exact (Kd.R_reads' HO382.out).2.1); rintro e w16 ⟨rfl, hb⟩; have n0_ := Aside0.mk (Kd.R_below z27_ hb); have n1_ := Aside0.mk (below_step z0_ hb); clear HO382; clear HB; have HO382 := n0_; have HB := n1_; clear n0_ n1_; (try clear hb); (try clear hb2); (try clear hk); (try clear hi)) | (go_at_call 37; (with_reducible refine (impl_PayDebt.calls k t379 _ _ t380 t383 t384 (wrap64 (1 + t386)) t389 t390 _ ?side1 ?side2 A11.out).mono ?_); (case side1 => repeat (first | exact (Kd.R_reads' HO382.out).2.2 | (with_reducible refine Kd.C_alloc ?_ _) | (with_reducible refine Kd.C_drewN ?_ _) | (with_reducible refine Kd.C_drew ?_))); (case side2 => exact (Kd.R_reads' HO382.out).2.1); rintro e w17 ⟨v391, rfl, ho0, hb⟩; have n0_ := Aside0.mk (Kd.R_elder' z27_ (Kd.R_base ho0) hb); have n1_ := Aside0.mk (Kd.R_lower (Kd.R_new' ho0 (Kd.R_lt z27_)) (below_size z0_)); have n2_ := Aside0.mk (below_step z0_ hb); clear HO382; clear HB; have HO382 := n0_; have HO392 := n1_; have HB := n2_; clear n0_ n1_ n2_; (try clear hb); (try clear hb2); (try clear hk); (try clear hi); (try clear ho0)) | (go_at_call 36; (with_reducible refine (spec_PayDebt.calls k t379 _ _ t380 t383 t384 (wrap64 (1 + t386)) t393 t394 _ ?side1 ?side2 A12.out).mono ?_); (case side1 => repeat (first | exact (Kd.R_reads' HO382.out).2.2 | (with_reducible refine Kd.C_alloc ?_ _) | (with_reducible refine Kd.C_drewN ?_ _) | (with_reducible refine Kd.C_drew ?_))); (case side2 => exact (Kd.R_reads' HO382.out).2.1); rintro e w18 ⟨v395, rfl, ho0, hb⟩; have n0_ := Aside0.mk (Kd.R_elder' z27_ (Kd.R_base ho0) hb); have n1_ := Aside0.mk (Kd.R_elder' z53_ (Kd.R_base ho0) hb); have n2_ := Aside0.mk (Kd.R_lower (Kd.R_new' (Kd.R_new' ho0 (Kd.R_lt z27_)) (Kd.R_lt z53_)) (below_size z0_)); have n3_ := Aside0.mk (below_step z0_ hb); clear HO382; clear HO392; clear HB; have HO382 := n0_; have HO392 := n1_; have HO396 := n2_; have HB := n3_; clear n0_ n1_ n2_ n3_; (try clear hb); (try clear hb2); (try clear hk); (try clear hi); (try clear ho0))); go_upto_region 11 with (first | (go_at_call 44; (with_reducible refine (laws_a2Long.calls _ _ l0 _ _ l1 false _ ?side1 ?side2 ?side3 ?side4 A3.out).mono ?_); (case side1 => repeat (first | exact HR0.out | (with_reducible refine Kd.C_alloc ?_ _) | (with_reducible refine Kd.C_drewN ?_ _) | (with_reducible refine Kd.C_drew ?_))); (case side2 => exact HC0.out); (case side3 => repeat (first | exact HR1.out | (with_reducible refine Kd.C_alloc ?_ _) | (with_reducible refine Kd.C_drewN ?_ _) | (with_reducible refine Kd.C_drew ?_))); (case side4 => exact HC1.out); rintro e w' ⟨rfl, ⟨nd, rfl⟩⟩; (try first | exact ⟨rfl, _, World.drewN_drewN _ _ _⟩ | exact ⟨rfl, _, Eq.trans (World.drewN_drewN _ _ _) (congrArg (World.drewN _) (Nat.add_assoc _ _ _))⟩)) | (go_at_call 45; (with_reducible refine (spec_A2Debts.calls k _ _ l0 t379 t380 _ ?side1 ?side2 A5.out).mono ?_); (case side1 => repeat (first | exact HR0.out | (with_reducible refine Kd.C_alloc ?_ _) | (with_reducible refine Kd.C_drewN ?_ _) | (with_reducible refine Kd.C_drew ?_))); (case side2 => exact HC0.out); rintro e w14 ⟨v381, rfl, ho0, hb⟩; have n0_ := Aside0.mk (Kd.R_lower ho0 (below_size z0_)); have n1_ := Aside0.mk (below_step z0_ hb); clear HB; have HO382 := n0_; have HB := n1_; clear n0_ n1_; (try clear hb); (try clear hb2); (try clear hk); (try clear hi); (try clear ho0)) | (go_at_call 51; (with_reducible refine (laws_a2At.calls _ _ l1 0 t379 t383 _ ?side1 ?side2 A6.out).mono ?_); (case side1 => repeat (first | exact (Kd.C_below HR1.out HB.out) | (with_reducible refine Kd.C_alloc ?_ _) | (with_reducible refine Kd.C_drewN ?_ _) | (with_reducible refine Kd.C_drew ?_))); (case side2 => exact HC1.out); rintro e w' ⟨rfl, ⟨nd, rfl⟩⟩; (try first | exact ⟨rfl, _, World.drewN_drewN _ _ _⟩ | exact ⟨rfl, _, Eq.trans (World.drewN_drewN _ _ _) (congrArg (World.drewN _) (Nat.add_assoc _ _ _))⟩)) | (go_at_call 51; (with_reducible refine (laws_a2At.calls _ _ l1 1 t379 t384 _ ?side1 ?side2 A7.out).mono ?_); (case side1 => repeat (first | exact (Kd.C_below HR1.out z0_) | (with_reducible refine Kd.C_alloc ?_ _) | (with_reducible refine Kd.C_drewN ?_ _) | (with_reducible refine Kd.C_drew ?_))); (case side2 => exact HC1.out); rintro e w' ⟨rfl, ⟨nd, rfl⟩⟩; (try first | exact ⟨rfl, _, World.drewN_drewN _ _ _⟩ | exact ⟨rfl, _, Eq.trans (World.drewN_drewN _ _ _) (congrArg (World.drewN _) (Nat.add_assoc _ _ _))⟩)) | (go_at_call 51; (with_reducible refine (laws_a2At.calls _ _ l1 2 t379 t385 _ ?side1 ?side2 A8.out).mono ?_); (case side1 => repeat (first | exact (Kd.C_below HR1.out z0_) | (with_reducible refine Kd.C_alloc ?_ _) | (with_reducible refine Kd.C_drewN ?_ _) | (with_reducible refine Kd.C_drew ?_))); (case side2 => exact HC1.out); rintro e w' ⟨rfl, ⟨nd, rfl⟩⟩; (try first | exact ⟨rfl, _, World.drewN_drewN _ _ _⟩ | exact ⟨rfl, _, Eq.trans (World.drewN_drewN _ _ _) (congrArg (World.drewN _) (Nat.add_assoc _ _ _))⟩)) | (go_at_call 51; (with_reducible refine (laws_a2At.calls _ _ l1 3 30 t386 _ ?side1 ?side2 A9.out).mono ?_); (case side1 => repeat (first | exact (Kd.C_below HR1.out z0_) | (with_reducible refine Kd.C_alloc ?_ _) | (with_reducible refine Kd.C_drewN ?_ _) | (with_reducible refine Kd.C_drew ?_))); (case side2 => exact HC1.out); rintro e w' ⟨rfl, ⟨nd, rfl⟩⟩; (try first | exact ⟨rfl, _, World.drewN_drewN _ _ _⟩ | exact ⟨rfl, _, Eq.trans (World.drewN_drewN _ _ _) (congrArg (World.drewN _) (Nat.add_assoc _ _ _))⟩); obtain ⟨Ao15, co15, eo15⟩ := Kd.R_slice HO382.out; subst eo15) | (go_at_call 16; (with_reducible refine (spec_OwedBetween.calls k t379 _ _ t380 t383 t384 t387 t388 _ ?side1 ?side2 A10.out).mono ?_); (case side1 => repeat (first | exact (Kd.R_reads' HO382.out).2.2 | (with_reducible refine Kd.C_alloc ?_ _) | (with_reducible refine Kd.C_drewN ?_ _) | (with_reducible refine Kd.C_drew ?_))); (case side2 => exact (Kd.R_reads' HO382.out).2.1); rintro e w16 ⟨rfl, hb⟩; have n0_ := Aside0.mk (Kd.R_below z27_ hb); have n1_ := Aside0.mk (below_step z0_ hb); clear HO382; clear HB; have HO382 := n0_; have HB := n1_; clear n0_ n1_; (try clear hb); (try clear hb2); (try clear hk); (try clear hi)) | (go_at_call 37; (with_reducible refine (impl_PayDebt.calls k t379 _ _ t380 t383 t384 (wrap64 (1 + t386)) t389 t390 _ ?side1 ?side2 A11.out).mono ?_); (case side1 => repeat (first | exact (Kd.R_reads' HO382.out).2.2 | (with_reducible refine Kd.C_alloc ?_ _) | (with_reducible refine Kd.C_drewN ?_ _) | (with_reducible refine Kd.C_drew ?_))); (case side2 => exact (Kd.R_reads' HO382.out).2.1); rintro e w17 ⟨v391, rfl, ho0, hb⟩; have n0_ := Aside0.mk (Kd.R_elder' z27_ (Kd.R_base ho0) hb); have n1_ := Aside0.mk (Kd.R_lower (Kd.R_new' ho0 (Kd.R_lt z27_)) (below_size z0_)); have n2_ := Aside0.mk (below_step z0_ hb); clear HO382; clear HB; have HO382 := n0_; have HO392 := n1_; have HB := n2_; clear n0_ n1_ n2_; (try clear hb); (try clear hb2); (try clear hk); (try clear hi); (try clear ho0)) | (go_at_call 36; (with_reducible refine (spec_PayDebt.calls k t379 _ _ t380 t383 t384 (wrap64 (1 + t386)) t393 t394 _ ?side1 ?side2 A12.out).mono ?_); (case side1 => repeat (first | exact (Kd.R_reads' HO382.out).2.2 | (with_reducible refine Kd.C_alloc ?_ _) | (with_reducible refine Kd.C_drewN ?_ _) | (with_reducible refine Kd.C_drew ?_))); (case side2 => exact (Kd.R_reads' HO382.out).2.1); rintro e w18 ⟨v395, rfl, ho0, hb⟩; have n0_ := Aside0.mk (Kd.R_elder' z27_ (Kd.R_base ho0) hb); have n1_ := Aside0.mk (Kd.R_elder' z53_ (Kd.R_base ho0) hb); have n2_ := Aside0.mk (Kd.R_lower (Kd.R_new' (Kd.R_new' ho0 (Kd.R_lt z27_)) (Kd.R_lt z53_)) (below_size z0_)); have n3_ := Aside0.mk (below_step z0_ hb); clear HO382; clear HO392; clear HB; have HO382 := n0_; have HO392 := n1_; have HO396 := n2_; have HB := n3_; clear n0_ n1_ n2_ n3_; (try clear hb); (try clear hb2); (try clear hk); (try clear hi); (try clear ho0))))); (try simp only [Act.put, List.setIfInBounds_toArray, List.set_cons_zero, List.set_cons_succ]); go_cut [106] (fun v106 wc => ∃ (kq : Nat) (x106_12 : Bool), v106 = .bool x106_12 ∧ Aside0 (laws_FnPaid.j0 kq l1 t379 t380 t383 t384 t385 (wrap64 (1 + t386)) t387 t390 t393 x106_12 = some r) ∧ Aside0 (kq ≤ k) ∧ Aside0 (Kd.R k65 65 wc w.heap.size (fun k_ => some k_ ≠ (v395 : Value).ownBlock) (.slice Ao15 t380.length co15) t380) ∧ Aside0 (Kd.R k65 65 wc w.heap.size (fun k_ => some k_ ≠ ((.slice Ao15 t380.length co15) : Value).ownBlock) v395 t393) ∧ Aside0 (Below w.heap.size w wc))
  case first =>
    have H := HC13.out; clear HC13; by_cases c19 : t388 = 0
    · rw [if_pos c19] at H; have c19b0 : (t388 == 0) = true := beq_iff_eq.mpr c19; have c19b1 : (t388 != 0) = false := bne_eq_false_iff_eq.mpr c19; clear c19; (first | rw [c19b0] | (simp only [i64_w, i32_w]; rw [c19b0]) | skip); by_cases c20 : t390 = t394
      · rw [if_pos c20] at H; have c20b0 : (t390 == t394) = true := beq_iff_eq.mpr c20; have c20b1 : (t390 != t394) = false := bne_eq_false_iff_eq.mpr c20; clear c20; replace H := Option.bind_eq_some_iff.mp H; obtain ⟨t397, A210, H⟩ := H; replace H : (if t397 = true then (laws_FnPaid.j0 k l1 t379 t380 t383 t384 t385 (wrap64 (1 + t386)) t387 t390 t393 ((t390 == 0) != (decide ((wrap64 (1 + t386)) ≤ t387)))) else (laws_FnPaid.j0 k l1 t379 t380 t383 t384 t385 (wrap64 (1 + t386)) t387 t390 t393 true)) = some r := H; have A21 := Aside0.mk A210; clear A210; by_cases c22 : t397 = true
        · subst c22; (have H1 : (laws_FnPaid.j0 k l1 t379 t380 t383 t384 t385 (wrap64 (1 + t386)) t387 t390 t393 ((t390 == 0) != (decide ((wrap64 (1 + t386)) ≤ t387)))) = some r := z41_); clear H; have H := H1; clear H1
          as_aux_lemma =>
            have H' := Aside0.mk H; clear H; obtain ⟨Ao23, co23, eo23⟩ := Kd.R_slice HO392.out; subst eo23; obtain ⟨Ao24, co24, eo24⟩ := Kd.R_slice HO396.out; subst eo24; go_wp2_with (first | (go_at_call 47; (with_reducible refine (spec_SameDebts.calls k _ _ t389 _ _ t393 true _ ?side1 ?side2 ?side3 ?side4 A21.out).mono ?_); (case side1 => repeat (first | exact (Kd.R_reads' HO392.out).2.2 | (with_reducible refine Kd.C_alloc ?_ _) | (with_reducible refine Kd.C_drewN ?_ _) | (with_reducible refine Kd.C_drew ?_))); (case side2 => exact (Kd.R_reads' HO392.out).2.1); (case side3 => repeat (first | exact (Kd.R_reads' HO396.out).2.2 | (with_reducible refine Kd.C_alloc ?_ _) | (with_reducible refine Kd.C_drewN ?_ _) | (with_reducible refine Kd.C_drew ?_))); (case side4 => exact (Kd.R_reads' HO396.out).2.1); rintro e w' ⟨rfl, ⟨nd, rfl⟩⟩; (try first | exact ⟨rfl, _, World.drewN_drewN _ _ _⟩ | exact ⟨rfl, _, Eq.trans (World.drewN_drewN _ _ _) (congrArg (World.drewN _) (Nat.add_assoc _ _ _))⟩))); (repeat (go_quiet (first | (go_at_call 47; (with_reducible refine (spec_SameDebts.calls k _ _ t389 _ _ t393 true _ ?side1 ?side2 ?side3 ?side4 A21.out).mono ?_); (case side1 => repeat (first | exact (Kd.R_reads' HO392.out).2.2 | (with_reducible refine Kd.C_alloc ?_ _) | (with_reducible refine Kd.C_drewN ?_ _) | (with_reducible refine Kd.C_drew ?_))); (case side2 => exact (Kd.R_reads' HO392.out).2.1); (case side3 => repeat (first | exact (Kd.R_reads' HO396.out).2.2 | (with_reducible refine Kd.C_alloc ?_ _) | (with_reducible refine Kd.C_drewN ?_ _) | (with_reducible refine Kd.C_drew ?_))); (case side4 => exact (Kd.R_reads' HO396.out).2.1); rintro e w' ⟨rfl, ⟨nd, rfl⟩⟩; (try first | exact ⟨rfl, _, World.drewN_drewN _ _ _⟩ | exact ⟨rfl, _, Eq.trans (World.drewN_drewN _ _ _) (congrArg (World.drewN _) (Nat.add_assoc _ _ _))⟩))); try go_wp2_with (first | (go_at_call 47; (with_reducible refine (spec_SameDebts.calls k _ _ t389 _ _ t393 true _ ?side1 ?side2 ?side3 ?side4 A21.out).mono ?_); (case side1 => repeat (first | exact (Kd.R_reads' HO392.out).2.2 | (with_reducible refine Kd.C_alloc ?_ _) | (with_reducible refine Kd.C_drewN ?_ _) | (with_reducible refine Kd.C_drew ?_))); (case side2 => exact (Kd.R_reads' HO392.out).2.1); (case side3 => repeat (first | exact (Kd.R_reads' HO396.out).2.2 | (with_reducible refine Kd.C_alloc ?_ _) | (with_reducible refine Kd.C_drewN ?_ _) | (with_reducible refine Kd.C_drew ?_))); (case side4 => exact (Kd.R_reads' HO396.out).2.1); rintro e w' ⟨rfl, ⟨nd, rfl⟩⟩; (try first | exact ⟨rfl, _, World.drewN_drewN _ _ _⟩ | exact ⟨rfl, _, Eq.trans (World.drewN_drewN _ _ _) (congrArg (World.drewN _) (Nat.add_assoc _ _ _))⟩))))); go_meet
            case rel => exact ⟨_, (((t390 == 0) != (decide ((wrap64 (1 + t386)) ≤ t387)))), z5_, H', ⟨z54_⟩, ⟨z65_⟩, ⟨z64_⟩, ⟨z0_⟩⟩
        · replace c22 := Bool.eq_false_iff.mpr c22; subst c22; (have H1 : (laws_FnPaid.j0 k l1 t379 t380 t383 t384 t385 (wrap64 (1 + t386)) t387 t390 t393 true) = some r := z18_); clear H; have H := H1; clear H1
          as_aux_lemma =>
            have H' := Aside0.mk H; clear H; obtain ⟨Ao25, co25, eo25⟩ := Kd.R_slice HO392.out; subst eo25; obtain ⟨Ao26, co26, eo26⟩ := Kd.R_slice HO396.out; subst eo26; go_wp2_with (first | (go_at_call 47; (with_reducible refine (spec_SameDebts.calls k _ _ t389 _ _ t393 false _ ?side1 ?side2 ?side3 ?side4 A21.out).mono ?_); (case side1 => repeat (first | exact (Kd.R_reads' HO392.out).2.2 | (with_reducible refine Kd.C_alloc ?_ _) | (with_reducible refine Kd.C_drewN ?_ _) | (with_reducible refine Kd.C_drew ?_))); (case side2 => exact (Kd.R_reads' HO392.out).2.1); (case side3 => repeat (first | exact (Kd.R_reads' HO396.out).2.2 | (with_reducible refine Kd.C_alloc ?_ _) | (with_reducible refine Kd.C_drewN ?_ _) | (with_reducible refine Kd.C_drew ?_))); (case side4 => exact (Kd.R_reads' HO396.out).2.1); rintro e w' ⟨rfl, ⟨nd, rfl⟩⟩; (try first | exact ⟨rfl, _, World.drewN_drewN _ _ _⟩ | exact ⟨rfl, _, Eq.trans (World.drewN_drewN _ _ _) (congrArg (World.drewN _) (Nat.add_assoc _ _ _))⟩))); (repeat (go_quiet (first | (go_at_call 47; (with_reducible refine (spec_SameDebts.calls k _ _ t389 _ _ t393 false _ ?side1 ?side2 ?side3 ?side4 A21.out).mono ?_); (case side1 => repeat (first | exact (Kd.R_reads' HO392.out).2.2 | (with_reducible refine Kd.C_alloc ?_ _) | (with_reducible refine Kd.C_drewN ?_ _) | (with_reducible refine Kd.C_drew ?_))); (case side2 => exact (Kd.R_reads' HO392.out).2.1); (case side3 => repeat (first | exact (Kd.R_reads' HO396.out).2.2 | (with_reducible refine Kd.C_alloc ?_ _) | (with_reducible refine Kd.C_drewN ?_ _) | (with_reducible refine Kd.C_drew ?_))); (case side4 => exact (Kd.R_reads' HO396.out).2.1); rintro e w' ⟨rfl, ⟨nd, rfl⟩⟩; (try first | exact ⟨rfl, _, World.drewN_drewN _ _ _⟩ | exact ⟨rfl, _, Eq.trans (World.drewN_drewN _ _ _) (congrArg (World.drewN _) (Nat.add_assoc _ _ _))⟩))); try go_wp2_with (first | (go_at_call 47; (with_reducible refine (spec_SameDebts.calls k _ _ t389 _ _ t393 false _ ?side1 ?side2 ?side3 ?side4 A21.out).mono ?_); (case side1 => repeat (first | exact (Kd.R_reads' HO392.out).2.2 | (with_reducible refine Kd.C_alloc ?_ _) | (with_reducible refine Kd.C_drewN ?_ _) | (with_reducible refine Kd.C_drew ?_))); (case side2 => exact (Kd.R_reads' HO392.out).2.1); (case side3 => repeat (first | exact (Kd.R_reads' HO396.out).2.2 | (with_reducible refine Kd.C_alloc ?_ _) | (with_reducible refine Kd.C_drewN ?_ _) | (with_reducible refine Kd.C_drew ?_))); (case side4 => exact (Kd.R_reads' HO396.out).2.1); rintro e w' ⟨rfl, ⟨nd, rfl⟩⟩; (try first | exact ⟨rfl, _, World.drewN_drewN _ _ _⟩ | exact ⟨rfl, _, Eq.trans (World.drewN_drewN _ _ _) (congrArg (World.drewN _) (Nat.add_assoc _ _ _))⟩))))); go_meet
            case rel => exact ⟨_, (true), z5_, H', ⟨z54_⟩, ⟨z65_⟩, ⟨z64_⟩, ⟨z0_⟩⟩
      · rw [if_neg c20] at H; have c20b0 : (t390 == t394) = false := beq_eq_false_iff_ne.mpr c20; have c20b1 : (t390 != t394) = true := bne_iff_ne.mpr c20
        as_aux_lemma =>
          have H' := Aside0.mk H; clear H; go_wp2; (repeat (go_quiet (fail); try go_wp2)); go_meet
          case rel => exact ⟨_, (true), z5_, H', ⟨z54_⟩, ⟨z65_⟩, ⟨z64_⟩, ⟨z0_⟩⟩
    · rw [if_neg c19] at H; have c19b0 : (t388 == 0) = false := beq_eq_false_iff_ne.mpr c19; have c19b1 : (t388 != 0) = true := bne_iff_ne.mpr c19; (first | rw [c19b0] | (simp only [i64_w, i32_w]; rw [c19b0]) | skip)
      as_aux_lemma =>
        have H' := Aside0.mk H; clear H; go_wp2; (repeat (go_quiet (fail); try go_wp2)); go_meet
        case rel => exact ⟨_, (true), z5_, H', ⟨z54_⟩, ⟨z65_⟩, ⟨z64_⟩, ⟨z0_⟩⟩
  case rest =>
    clear HC13; (try clear c1); (try clear c2); (try clear p2); (try clear c4); (try clear p6); (try clear c14); (try clear c19); (try clear c19b0); (try clear c19b1); (try clear c20); (try clear c20b0); (try clear c20b1); (try clear c22); obtain ⟨kq, x106_12, rfl, HA, HJ12, HO_6, HO_15, HB⟩ := hcut
    cases kq with
    | zero => exact absurd HA.out (by simp [laws_FnPaid.j0])
    | succ kj12 =>
      have H := HA.out; clear HA; simp only [laws_FnPaid.j0] at H; by_cases c27 : x106_12 = true
      · subst c27; (have H1 : (some false) = some r := z41_); clear H; have H := H1; clear H1
        as_aux_lemma =>
          obtain rfl := Option.some.inj H; cases ht
      · replace c27 := Bool.eq_false_iff.mpr c27; subst c27; (have H1 : (if t390 = 0 then ((impl_OwedBetween.f kj12 t379 t393 t383 t384).bind fun bt398 => (if bt398.2 = 0 then (if bt398.1 = (wrap64 (t387 - (wrap64 (1 + t386)))) then (laws_FnPaid.j1 kj12 l1 t379 t380 t383 t384 t385 (wrap64 (1 + t386))) else (some false)) else (some false))) else (laws_FnPaid.j1 kj12 l1 t379 t380 t383 t384 t385 (wrap64 (1 + t386)))) = some r := z18_); clear H; have H := H1; clear H1; have HC28 := Aside0.mk H; clear H; go_upto_if 108 with (fail); (repeat (go_quiet (fail); go_upto_if 108 with (fail))); go_cut [] (fun wc => ∃ (kq : Nat), Aside0 (laws_FnPaid.j1 kq l1 t379 t380 t383 t384 t385 (wrap64 (1 + t386)) = some r) ∧ Aside0 (kq ≤ kj12) ∧ Aside0 (Kd.R k65 65 wc w.heap.size (fun _ => True) (.slice Ao15 t380.length co15) t380) ∧ Aside0 (Below w.heap.size w wc))
        case first =>
          have H := HC28.out; clear HC28; by_cases c29 : t390 = 0
          · rw [if_pos c29] at H; have c29b0 : (t390 == 0) = true := beq_iff_eq.mpr c29; have c29b1 : (t390 != 0) = false := bne_eq_false_iff_eq.mpr c29; clear c29; (first | rw [c29b0] | (simp only [i64_w, i32_w]; rw [c29b0]) | skip); replace H := Option.bind_eq_some_iff.mp H; obtain ⟨⟨t398, t399⟩, A300, H⟩ := H; replace H : (if t399 = 0 then (if t398 = (wrap64 (t387 - (wrap64 (1 + t386)))) then (laws_FnPaid.j1 kj12 l1 t379 t380 t383 t384 t385 (wrap64 (1 + t386))) else (some false)) else (some false)) = some r := H; have A30 := Aside0.mk A300; clear A300; by_cases c31 : t399 = 0
            · rw [if_pos c31] at H; have c31b0 : (t399 == 0) = true := beq_iff_eq.mpr c31; have c31b1 : (t399 != 0) = false := bne_eq_false_iff_eq.mpr c31; clear c31; by_cases c32 : t398 = (wrap64 (t387 - (wrap64 (1 + t386))))
              · rw [if_pos c32] at H; have c32b0 : (t398 == (wrap64 (t387 - (wrap64 (1 + t386))))) = true := beq_iff_eq.mpr c32; have c32b1 : (t398 != (wrap64 (t387 - (wrap64 (1 + t386))))) = false := bne_eq_false_iff_eq.mpr c32; clear c32
                as_aux_lemma =>
                  have H' := Aside0.mk H; clear H; obtain ⟨Ao33, co33, eo33⟩ := Kd.R_slice HO_15.out; subst eo33; go_wp2_with (first | (go_at_call 18; (with_reducible refine (impl_OwedBetween.calls kj12 t379 _ _ t393 t383 t384 t398 t399 _ ?side1 ?side2 A30.out).mono ?_); (case side1 => repeat (first | exact (Kd.R_reads' HO_15.out).2.2 | (with_reducible refine Kd.C_alloc ?_ _) | (with_reducible refine Kd.C_drewN ?_ _) | (with_reducible refine Kd.C_drew ?_))); (case side2 => exact (Kd.R_reads' HO_15.out).2.1); rintro e w34 ⟨rfl, hb⟩; have n0_ := Aside0.mk (Kd.R_below z6_ hb); have n1_ := Aside0.mk (Kd.R_below z75_ hb); have n2_ := Aside0.mk (below_step z0_ hb); clear HO_6; clear HO_15; clear HB; have HO_6 := n0_; have HO_15 := n1_; have HB := n2_; clear n0_ n1_ n2_; (try clear hb); (try clear hb2); (try clear hk); (try clear hi))); (repeat (go_quiet (first | (go_at_call 18; (with_reducible refine (impl_OwedBetween.calls kj12 t379 _ _ t393 t383 t384 t398 t399 _ ?side1 ?side2 A30.out).mono ?_); (case side1 => repeat (first | exact (Kd.R_reads' HO_15.out).2.2 | (with_reducible refine Kd.C_alloc ?_ _) | (with_reducible refine Kd.C_drewN ?_ _) | (with_reducible refine Kd.C_drew ?_))); (case side2 => exact (Kd.R_reads' HO_15.out).2.1); rintro e w34 ⟨rfl, hb⟩; have n0_ := Aside0.mk (Kd.R_below z6_ hb); have n1_ := Aside0.mk (Kd.R_below z75_ hb); have n2_ := Aside0.mk (below_step z0_ hb); clear HO_6; clear HO_15; clear HB; have HO_6 := n0_; have HO_15 := n1_; have HB := n2_; clear n0_ n1_ n2_; (try clear hb); (try clear hb2); (try clear hk); (try clear hi))); try go_wp2_with (first | (go_at_call 18; (with_reducible refine (impl_OwedBetween.calls kj12 t379 _ _ t393 t383 t384 t398 t399 _ ?side1 ?side2 A30.out).mono ?_); (case side1 => repeat (first | exact (Kd.R_reads' HO_15.out).2.2 | (with_reducible refine Kd.C_alloc ?_ _) | (with_reducible refine Kd.C_drewN ?_ _) | (with_reducible refine Kd.C_drew ?_))); (case side2 => exact (Kd.R_reads' HO_15.out).2.1); rintro e w34 ⟨rfl, hb⟩; have n0_ := Aside0.mk (Kd.R_below z6_ hb); have n1_ := Aside0.mk (Kd.R_below z75_ hb); have n2_ := Aside0.mk (below_step z0_ hb); clear HO_6; clear HO_15; clear HB; have HO_6 := n0_; have HO_15 := n1_; have HB := n2_; clear n0_ n1_ n2_; (try clear hb); (try clear hb2); (try clear hk); (try clear hi))))); go_meet
                  case rel => exact ⟨_, H', ⟨by have := HJ12.out; first | omega | exact Nat.le_refl _⟩, ⟨z63_⟩, ⟨z0_⟩⟩
              · rw [if_neg c32] at H; have c32b0 : (t398 == (wrap64 (t387 - (wrap64 (1 + t386))))) = false := beq_eq_false_iff_ne.mpr c32; have c32b1 : (t398 != (wrap64 (t387 - (wrap64 (1 + t386))))) = true := bne_iff_ne.mpr c32
                as_aux_lemma =>
                  obtain rfl := Option.some.inj H; cases ht
            · rw [if_neg c31] at H; have c31b0 : (t399 == 0) = false := beq_eq_false_iff_ne.mpr c31; have c31b1 : (t399 != 0) = true := bne_iff_ne.mpr c31
              as_aux_lemma =>
                obtain rfl := Option.some.inj H; cases ht
          · rw [if_neg c29] at H; have c29b0 : (t390 == 0) = false := beq_eq_false_iff_ne.mpr c29; have c29b1 : (t390 != 0) = true := bne_iff_ne.mpr c29; (first | rw [c29b0] | (simp only [i64_w, i32_w]; rw [c29b0]) | skip)
            as_aux_lemma =>
              have H' := Aside0.mk H; clear H; go_wp2; (repeat (go_quiet (fail); try go_wp2)); go_meet
              case rel => exact ⟨_, H', ⟨by have := HJ12.out; first | omega | exact Nat.le_refl _⟩, ⟨z63_⟩, ⟨z0_⟩⟩
        case rest =>
          clear HC28; (try clear c1); (try clear c2); (try clear p2); (try clear c3); (try clear c4); (try clear p6); (try clear c14); (try clear c19); (try clear c19b0); (try clear c19b1); (try clear c20); (try clear c20b0); (try clear c20b1); (try clear c22); (try clear c27); (try clear c29); (try clear c29b0); (try clear c29b1); (try clear c31); (try clear c31b0); (try clear c31b1); (try clear c32); (try clear c32b0); (try clear c32b1); (try clear p2); (try clear p6); obtain ⟨kq, HA, HJ27, HO_6, HB⟩ := hcut
          cases kq with
          | zero => exact absurd HA.out (by simp [laws_FnPaid.j1])
          | succ kj27 =>
            have H := HA.out; clear HA; simp only [laws_FnPaid.j1] at H; replace H := Option.bind_eq_some_iff.mp H; obtain ⟨⟨t400, t401⟩, A350, H⟩ := H; replace H : ((spec_PassDebt.f kj27 t379 t380 t383 t384 t385 (wrap64 (1 + t386))).bind fun bt404 => (if t401 = bt404.2 then ((spec_SameDebts.f kj27 t400 bt404.1).bind fun t408 => (laws_FnPaid.j2 kj27 l1 t379 t380 t401 bt404.1 (!t408))) else (laws_FnPaid.j2 kj27 l1 t379 t380 t401 bt404.1 true))) = some r := H; have A35 := Aside0.mk A350; clear A350; replace H := Option.bind_eq_some_iff.mp H; obtain ⟨⟨t404, t405⟩, A360, H⟩ := H; replace H : (if t401 = t405 then ((spec_SameDebts.f kj27 t400 t404).bind fun t408 => (laws_FnPaid.j2 kj27 l1 t379 t380 t401 t404 (!t408))) else (laws_FnPaid.j2 kj27 l1 t379 t380 t401 t404 true)) = some r := H; have A36 := Aside0.mk A360; clear A360; have HC37 := Aside0.mk H; clear H; go_upto_region 19 with (first | (go_at_call 39; (with_reducible refine (impl_PassDebt.calls kj27 t379 _ _ t380 t383 t384 t385 (wrap64 (1 + t386)) t400 t401 _ ?side1 ?side2 A35.out).mono ?_); (case side1 => repeat (first | exact (Kd.R_reads' HO_6.out).2.2 | (with_reducible refine Kd.C_alloc ?_ _) | (with_reducible refine Kd.C_drewN ?_ _) | (with_reducible refine Kd.C_drew ?_))); (case side2 => exact (Kd.R_reads' HO_6.out).2.1); rintro e w38 ⟨v402, rfl, ho0, hb⟩; have n0_ := Aside0.mk (Kd.R_elder' z6_ (Kd.R_base ho0) hb); have n1_ := Aside0.mk (Kd.R_lower (Kd.R_new' ho0 (Kd.R_lt z6_)) (below_size z0_)); have n2_ := Aside0.mk (below_step z0_ hb); clear HO_6; clear HB; have HO_6 := n0_; have HO403 := n1_; have HB := n2_; clear n0_ n1_ n2_; (try clear hb); (try clear hb2); (try clear hk); (try clear hi); (try clear ho0)) | (go_at_call 38; (with_reducible refine (spec_PassDebt.calls kj27 t379 _ _ t380 t383 t384 t385 (wrap64 (1 + t386)) t404 t405 _ ?side1 ?side2 A36.out).mono ?_); (case side1 => repeat (first | exact (Kd.R_reads' HO_6.out).2.2 | (with_reducible refine Kd.C_alloc ?_ _) | (with_reducible refine Kd.C_drewN ?_ _) | (with_reducible refine Kd.C_drew ?_))); (case side2 => exact (Kd.R_reads' HO_6.out).2.1); rintro e w39 ⟨v406, rfl, ho0, hb⟩; have n0_ := Aside0.mk (Kd.R_elder' z6_ (Kd.R_base ho0) hb); have n1_ := Aside0.mk (Kd.R_elder' z52_ (Kd.R_base ho0) hb); have n2_ := Aside0.mk (Kd.R_lower (Kd.R_new' (Kd.R_new' ho0 (Kd.R_lt z6_)) (Kd.R_lt z52_)) (below_size z0_)); have n3_ := Aside0.mk (below_step z0_ hb); clear HO_6; clear HO403; clear HB; have HO_6 := n0_; have HO403 := n1_; have HO407 := n2_; have HB := n3_; clear n0_ n1_ n2_ n3_; (try clear hb); (try clear hb2); (try clear hk); (try clear hi); (try clear ho0))); (repeat (go_quiet (first | (go_at_call 39; (with_reducible refine (impl_PassDebt.calls kj27 t379 _ _ t380 t383 t384 t385 (wrap64 (1 + t386)) t400 t401 _ ?side1 ?side2 A35.out).mono ?_); (case side1 => repeat (first | exact (Kd.R_reads' HO_6.out).2.2 | (with_reducible refine Kd.C_alloc ?_ _) | (with_reducible refine Kd.C_drewN ?_ _) | (with_reducible refine Kd.C_drew ?_))); (case side2 => exact (Kd.R_reads' HO_6.out).2.1); rintro e w38 ⟨v402, rfl, ho0, hb⟩; have n0_ := Aside0.mk (Kd.R_elder' z6_ (Kd.R_base ho0) hb); have n1_ := Aside0.mk (Kd.R_lower (Kd.R_new' ho0 (Kd.R_lt z6_)) (below_size z0_)); have n2_ := Aside0.mk (below_step z0_ hb); clear HO_6; clear HB; have HO_6 := n0_; have HO403 := n1_; have HB := n2_; clear n0_ n1_ n2_; (try clear hb); (try clear hb2); (try clear hk); (try clear hi); (try clear ho0)) | (go_at_call 38; (with_reducible refine (spec_PassDebt.calls kj27 t379 _ _ t380 t383 t384 t385 (wrap64 (1 + t386)) t404 t405 _ ?side1 ?side2 A36.out).mono ?_); (case side1 => repeat (first | exact (Kd.R_reads' HO_6.out).2.2 | (with_reducible refine Kd.C_alloc ?_ _) | (with_reducible refine Kd.C_drewN ?_ _) | (with_reducible refine Kd.C_drew ?_))); (case side2 => exact (Kd.R_reads' HO_6.out).2.1); rintro e w39 ⟨v406, rfl, ho0, hb⟩; have n0_ := Aside0.mk (Kd.R_elder' z6_ (Kd.R_base ho0) hb); have n1_ := Aside0.mk (Kd.R_elder' z52_ (Kd.R_base ho0) hb); have n2_ := Aside0.mk (Kd.R_lower (Kd.R_new' (Kd.R_new' ho0 (Kd.R_lt z6_)) (Kd.R_lt z52_)) (below_size z0_)); have n3_ := Aside0.mk (below_step z0_ hb); clear HO_6; clear HO403; clear HB; have HO_6 := n0_; have HO403 := n1_; have HO407 := n2_; have HB := n3_; clear n0_ n1_ n2_ n3_; (try clear hb); (try clear hb2); (try clear hk); (try clear hi); (try clear ho0))); go_upto_region 19 with (first | (go_at_call 39; (with_reducible refine (impl_PassDebt.calls kj27 t379 _ _ t380 t383 t384 t385 (wrap64 (1 + t386)) t400 t401 _ ?side1 ?side2 A35.out).mono ?_); (case side1 => repeat (first | exact (Kd.R_reads' HO_6.out).2.2 | (with_reducible refine Kd.C_alloc ?_ _) | (with_reducible refine Kd.C_drewN ?_ _) | (with_reducible refine Kd.C_drew ?_))); (case side2 => exact (Kd.R_reads' HO_6.out).2.1); rintro e w38 ⟨v402, rfl, ho0, hb⟩; have n0_ := Aside0.mk (Kd.R_elder' z6_ (Kd.R_base ho0) hb); have n1_ := Aside0.mk (Kd.R_lower (Kd.R_new' ho0 (Kd.R_lt z6_)) (below_size z0_)); have n2_ := Aside0.mk (below_step z0_ hb); clear HO_6; clear HB; have HO_6 := n0_; have HO403 := n1_; have HB := n2_; clear n0_ n1_ n2_; (try clear hb); (try clear hb2); (try clear hk); (try clear hi); (try clear ho0)) | (go_at_call 38; (with_reducible refine (spec_PassDebt.calls kj27 t379 _ _ t380 t383 t384 t385 (wrap64 (1 + t386)) t404 t405 _ ?side1 ?side2 A36.out).mono ?_); (case side1 => repeat (first | exact (Kd.R_reads' HO_6.out).2.2 | (with_reducible refine Kd.C_alloc ?_ _) | (with_reducible refine Kd.C_drewN ?_ _) | (with_reducible refine Kd.C_drew ?_))); (case side2 => exact (Kd.R_reads' HO_6.out).2.1); rintro e w39 ⟨v406, rfl, ho0, hb⟩; have n0_ := Aside0.mk (Kd.R_elder' z6_ (Kd.R_base ho0) hb); have n1_ := Aside0.mk (Kd.R_elder' z52_ (Kd.R_base ho0) hb); have n2_ := Aside0.mk (Kd.R_lower (Kd.R_new' (Kd.R_new' ho0 (Kd.R_lt z6_)) (Kd.R_lt z52_)) (below_size z0_)); have n3_ := Aside0.mk (below_step z0_ hb); clear HO_6; clear HO403; clear HB; have HO_6 := n0_; have HO403 := n1_; have HO407 := n2_; have HB := n3_; clear n0_ n1_ n2_ n3_; (try clear hb); (try clear hb2); (try clear hk); (try clear hi); (try clear ho0))))); (try simp only [Act.put, List.setIfInBounds_toArray, List.set_cons_zero, List.set_cons_succ]); go_cut [154] (fun v154 wc => ∃ (kq : Nat) (x154_36 : Bool), v154 = .bool x154_36 ∧ Aside0 (laws_FnPaid.j2 kq l1 t379 t380 t401 t404 x154_36 = some r) ∧ Aside0 (kq ≤ kj27) ∧ Aside0 (Kd.R k65 65 wc w.heap.size (fun k_ => some k_ ≠ (v406 : Value).ownBlock) (.slice Ao15 t380.length co15) t380) ∧ Aside0 (Kd.R k65 65 wc w.heap.size (fun k_ => some k_ ≠ ((.slice Ao15 t380.length co15) : Value).ownBlock) v406 t404) ∧ Aside0 (Below w.heap.size w wc))
            case first =>
              have H := HC37.out; clear HC37; by_cases c40 : t401 = t405
              · rw [if_pos c40] at H; have c40b0 : (t401 == t405) = true := beq_iff_eq.mpr c40; have c40b1 : (t401 != t405) = false := bne_eq_false_iff_eq.mpr c40; clear c40; (first | rw [c40b0] | (simp only [i64_w, i32_w]; rw [c40b0]) | skip); replace H := Option.bind_eq_some_iff.mp H; obtain ⟨t408, A410, H⟩ := H; replace H : (laws_FnPaid.j2 kj27 l1 t379 t380 t401 t404 (!t408)) = some r := H; have A41 := Aside0.mk A410; clear A410
                as_aux_lemma =>
                  have H' := Aside0.mk H; clear H; obtain ⟨Ao42, co42, eo42⟩ := Kd.R_slice HO403.out; subst eo42; obtain ⟨Ao43, co43, eo43⟩ := Kd.R_slice HO407.out; subst eo43; go_wp2_with (first | (go_at_call 47; (with_reducible refine (spec_SameDebts.calls kj27 _ _ t400 _ _ t404 t408 _ ?side1 ?side2 ?side3 ?side4 A41.out).mono ?_); (case side1 => repeat (first | exact (Kd.R_reads' HO403.out).2.2 | (with_reducible refine Kd.C_alloc ?_ _) | (with_reducible refine Kd.C_drewN ?_ _) | (with_reducible refine Kd.C_drew ?_))); (case side2 => exact (Kd.R_reads' HO403.out).2.1); (case side3 => repeat (first | exact (Kd.R_reads' HO407.out).2.2 | (with_reducible refine Kd.C_alloc ?_ _) | (with_reducible refine Kd.C_drewN ?_ _) | (with_reducible refine Kd.C_drew ?_))); (case side4 => exact (Kd.R_reads' HO407.out).2.1); rintro e w' ⟨rfl, ⟨nd, rfl⟩⟩; (try first | exact ⟨rfl, _, World.drewN_drewN _ _ _⟩ | exact ⟨rfl, _, Eq.trans (World.drewN_drewN _ _ _) (congrArg (World.drewN _) (Nat.add_assoc _ _ _))⟩))); (repeat (go_quiet (first | (go_at_call 47; (with_reducible refine (spec_SameDebts.calls kj27 _ _ t400 _ _ t404 t408 _ ?side1 ?side2 ?side3 ?side4 A41.out).mono ?_); (case side1 => repeat (first | exact (Kd.R_reads' HO403.out).2.2 | (with_reducible refine Kd.C_alloc ?_ _) | (with_reducible refine Kd.C_drewN ?_ _) | (with_reducible refine Kd.C_drew ?_))); (case side2 => exact (Kd.R_reads' HO403.out).2.1); (case side3 => repeat (first | exact (Kd.R_reads' HO407.out).2.2 | (with_reducible refine Kd.C_alloc ?_ _) | (with_reducible refine Kd.C_drewN ?_ _) | (with_reducible refine Kd.C_drew ?_))); (case side4 => exact (Kd.R_reads' HO407.out).2.1); rintro e w' ⟨rfl, ⟨nd, rfl⟩⟩; (try first | exact ⟨rfl, _, World.drewN_drewN _ _ _⟩ | exact ⟨rfl, _, Eq.trans (World.drewN_drewN _ _ _) (congrArg (World.drewN _) (Nat.add_assoc _ _ _))⟩))); try go_wp2_with (first | (go_at_call 47; (with_reducible refine (spec_SameDebts.calls kj27 _ _ t400 _ _ t404 t408 _ ?side1 ?side2 ?side3 ?side4 A41.out).mono ?_); (case side1 => repeat (first | exact (Kd.R_reads' HO403.out).2.2 | (with_reducible refine Kd.C_alloc ?_ _) | (with_reducible refine Kd.C_drewN ?_ _) | (with_reducible refine Kd.C_drew ?_))); (case side2 => exact (Kd.R_reads' HO403.out).2.1); (case side3 => repeat (first | exact (Kd.R_reads' HO407.out).2.2 | (with_reducible refine Kd.C_alloc ?_ _) | (with_reducible refine Kd.C_drewN ?_ _) | (with_reducible refine Kd.C_drew ?_))); (case side4 => exact (Kd.R_reads' HO407.out).2.1); rintro e w' ⟨rfl, ⟨nd, rfl⟩⟩; (try first | exact ⟨rfl, _, World.drewN_drewN _ _ _⟩ | exact ⟨rfl, _, Eq.trans (World.drewN_drewN _ _ _) (congrArg (World.drewN _) (Nat.add_assoc _ _ _))⟩))))); go_meet
                  case rel => exact ⟨_, (!t408), z5_, H', ⟨by have := HJ12.out; have := HJ27.out; first | omega | exact Nat.le_refl _⟩, ⟨by (with_reducible repeat (first | apply Kd.R_alloc | apply Kd.R_drewN | apply Kd.R_drew)); exact Kd.R_mono HO_6.out (fun _ hk => hk.2)⟩, ⟨by (with_reducible repeat (first | apply Kd.R_alloc | apply Kd.R_drewN | apply Kd.R_drew)); exact Kd.R_mono HO407.out (fun _ hk => hk.1.2)⟩, ⟨z0_⟩⟩
              · rw [if_neg c40] at H; have c40b0 : (t401 == t405) = false := beq_eq_false_iff_ne.mpr c40; have c40b1 : (t401 != t405) = true := bne_iff_ne.mpr c40; (first | rw [c40b0] | (simp only [i64_w, i32_w]; rw [c40b0]) | skip)
                as_aux_lemma =>
                  have H' := Aside0.mk H; clear H; go_wp2; (repeat (go_quiet (fail); try go_wp2)); go_meet
                  case rel => exact ⟨_, (true), z5_, H', ⟨by have := HJ12.out; have := HJ27.out; first | omega | exact Nat.le_refl _⟩, ⟨by (with_reducible repeat (first | apply Kd.R_alloc | apply Kd.R_drewN | apply Kd.R_drew)); exact Kd.R_mono HO_6.out (fun _ hk => hk.2)⟩, ⟨by (with_reducible repeat (first | apply Kd.R_alloc | apply Kd.R_drewN | apply Kd.R_drew)); exact Kd.R_mono HO407.out (fun _ hk => hk.1.2)⟩, ⟨z0_⟩⟩
            case rest =>
              clear HC37; (try clear c1); (try clear c2); (try clear p2); (try clear c3); (try clear c4); (try clear p6); (try clear c14); (try clear c19); (try clear c19b0); (try clear c19b1); (try clear c20); (try clear c20b0); (try clear c20b1); (try clear c22); (try clear c27); (try clear c29); (try clear c29b0); (try clear c29b1); (try clear c31); (try clear c31b0); (try clear c31b1); (try clear c32); (try clear c32b0); (try clear c32b1); (try clear c40); (try clear c40b0); (try clear c40b1); (try clear p2); (try clear p6); obtain ⟨kq, x154_36, rfl, HA, HJ36, HO_6, HO_21, HB⟩ := hcut
              cases kq with
              | zero => exact absurd HA.out (by simp [laws_FnPaid.j2])
              | succ kj36 =>
                have H := HA.out; clear HA; simp only [laws_FnPaid.j2] at H; by_cases c44 : x154_36 = true
                · subst c44; (have H1 : (some false) = some r := z41_); clear H; have H := H1; clear H1
                  as_aux_lemma =>
                    obtain rfl := Option.some.inj H; cases ht
                · replace c44 := Bool.eq_false_iff.mpr c44; subst c44; (have H1 : (if t401 = 0 then ((spec_NetsOf.f kj36 t379 t380).bind fun bt409 => ((impl_NetsOf.f kj36 t379 t404).bind fun bt413 => (if bt409.2 = 0 then (if bt413.2 = 0 then ((spec_A2Same.f kj36 bt409.1 bt413.1).bind fun t417 => (if t417 = true then (laws_FnPaid.j3 kj36 l1 t379 t380) else (some false))) else (some false)) else (some false)))) else (laws_FnPaid.j3 kj36 l1 t379 t380)) = some r := z18_); clear H; have H := H1; clear H1; have HC45 := Aside0.mk H; clear H; go_upto_if 156 with (fail); (repeat (go_quiet (fail); go_upto_if 156 with (fail))); go_cut [] (fun wc => ∃ (kq : Nat), Aside0 (laws_FnPaid.j3 kq l1 t379 t380 = some r) ∧ Aside0 (kq ≤ kj36) ∧ Aside0 (Kd.R k65 65 wc w.heap.size (fun _ => True) (.slice Ao15 t380.length co15) t380) ∧ Aside0 (Below w.heap.size w wc))
                  case first =>
                    have H := HC45.out; clear HC45; by_cases c46 : t401 = 0
                    · rw [if_pos c46] at H; have c46b0 : (t401 == 0) = true := beq_iff_eq.mpr c46; have c46b1 : (t401 != 0) = false := bne_eq_false_iff_eq.mpr c46; clear c46; (first | rw [c46b0] | (simp only [i64_w, i32_w]; rw [c46b0]) | skip); replace H := Option.bind_eq_some_iff.mp H; obtain ⟨⟨t409, t410⟩, A470, H⟩ := H; replace H : ((impl_NetsOf.f kj36 t379 t404).bind fun bt413 => (if t410 = 0 then (if bt413.2 = 0 then ((spec_A2Same.f kj36 t409 bt413.1).bind fun t417 => (if t417 = true then (laws_FnPaid.j3 kj36 l1 t379 t380) else (some false))) else (some false)) else (some false))) = some r := H; have A47 := Aside0.mk A470; clear A470; replace H := Option.bind_eq_some_iff.mp H; obtain ⟨⟨t413, t414⟩, A480, H⟩ := H; replace H : (if t410 = 0 then (if t414 = 0 then ((spec_A2Same.f kj36 t409 t413).bind fun t417 => (if t417 = true then (laws_FnPaid.j3 kj36 l1 t379 t380) else (some false))) else (some false)) else (some false)) = some r := H; have A48 := Aside0.mk A480; clear A480; by_cases c49 : t410 = 0
                      · rw [if_pos c49] at H; have c49b0 : (t410 == 0) = true := beq_iff_eq.mpr c49; have c49b1 : (t410 != 0) = false := bne_eq_false_iff_eq.mpr c49; clear c49; by_cases c50 : t414 = 0
                        · rw [if_pos c50] at H; have c50b0 : (t414 == 0) = true := beq_iff_eq.mpr c50; have c50b1 : (t414 != 0) = false := bne_eq_false_iff_eq.mpr c50; clear c50; replace H := Option.bind_eq_some_iff.mp H; obtain ⟨t417, A510, H⟩ := H; replace H : (if t417 = true then (laws_FnPaid.j3 kj36 l1 t379 t380) else (some false)) = some r := H; have A51 := Aside0.mk A510; clear A510; by_cases c52 : t417 = true
                          · subst c52; (have H1 : (laws_FnPaid.j3 kj36 l1 t379 t380) = some r := z41_); clear H; have H := H1; clear H1
                            as_aux_lemma =>
                              have H' := Aside0.mk H; clear H; go_wp2_with (first | (go_at_call 49; (with_reducible refine (spec_NetsOf.calls kj36 t379 _ _ t380 t409 t410 _ ?side1 ?side2 A47.out).mono ?_); (case side1 => repeat (first | exact (Kd.R_reads' HO_6.out).2.2 | (with_reducible refine Kd.C_alloc ?_ _) | (with_reducible refine Kd.C_drewN ?_ _) | (with_reducible refine Kd.C_drew ?_))); (case side2 => exact (Kd.R_reads' HO_6.out).2.1); rintro e w53 ⟨v411, rfl, ho0, hb⟩; have n0_ := Aside0.mk (Kd.R_below z6_ hb); have n1_ := Aside0.mk (Kd.R_below z49_ hb); have n2_ := Aside0.mk (Kd.R_lower ho0 (below_size z0_)); have n3_ := Aside0.mk (below_step z0_ hb); clear HO_6; clear HO_21; clear HB; have HO_6 := n0_; have HO_21 := n1_; have HO412 := n2_; have HB := n3_; clear n0_ n1_ n2_ n3_; (try clear hb); (try clear hb2); (try clear hk); (try clear hi); (try clear ho0); obtain ⟨Ao54, co54, eo54⟩ := Kd.R_slice HO_21.out; subst eo54) | (go_at_call 50; (with_reducible refine (impl_NetsOf.calls kj36 t379 _ _ t404 t413 t414 _ ?side1 ?side2 A48.out).mono ?_); (case side1 => repeat (first | exact (Kd.R_reads' HO_21.out).2.2 | (with_reducible refine Kd.C_alloc ?_ _) | (with_reducible refine Kd.C_drewN ?_ _) | (with_reducible refine Kd.C_drew ?_))); (case side2 => exact (Kd.R_reads' HO_21.out).2.1); rintro e w55 ⟨v415, rfl, ho0, hb⟩; have n0_ := Aside0.mk (Kd.R_below z6_ hb); have n1_ := Aside0.mk (Kd.R_below z49_ hb); have n2_ := Aside0.mk (Kd.R_elder' z51_ (Kd.R_base ho0) hb); have n3_ := Aside0.mk (Kd.R_lower (Kd.R_new' ho0 (Kd.R_lt z51_)) (below_size z0_)); have n4_ := Aside0.mk (below_step z0_ hb); clear HO_6; clear HO_21; clear HO412; clear HB; have HO_6 := n0_; have HO_21 := n1_; have HO412 := n2_; have HO416 := n3_; have HB := n4_; clear n0_ n1_ n2_ n3_ n4_; (try clear hb); (try clear hb2); (try clear hk); (try clear hi); (try clear ho0); obtain ⟨Ao56, co56, eo56⟩ := Kd.R_slice HO412.out; subst eo56; obtain ⟨Ao57, co57, eo57⟩ := Kd.R_slice HO416.out; subst eo57) | (go_at_call 46; (with_reducible refine (spec_A2Same.calls kj36 _ _ t409 _ _ t413 true _ ?side1 ?side2 ?side3 ?side4 A51.out).mono ?_); (case side1 => repeat (first | exact (Kd.R_reads' HO412.out).2.2 | (with_reducible refine Kd.C_alloc ?_ _) | (with_reducible refine Kd.C_drewN ?_ _) | (with_reducible refine Kd.C_drew ?_))); (case side2 => exact (Kd.R_reads' HO412.out).2.1); (case side3 => repeat (first | exact (Kd.R_reads' HO416.out).2.2 | (with_reducible refine Kd.C_alloc ?_ _) | (with_reducible refine Kd.C_drewN ?_ _) | (with_reducible refine Kd.C_drew ?_))); (case side4 => exact (Kd.R_reads' HO416.out).2.1); rintro e w' ⟨rfl, ⟨nd, rfl⟩⟩; (try first | exact ⟨rfl, _, World.drewN_drewN _ _ _⟩ | exact ⟨rfl, _, Eq.trans (World.drewN_drewN _ _ _) (congrArg (World.drewN _) (Nat.add_assoc _ _ _))⟩))); (repeat (go_quiet (first | (go_at_call 49; (with_reducible refine (spec_NetsOf.calls kj36 t379 _ _ t380 t409 t410 _ ?side1 ?side2 A47.out).mono ?_); (case side1 => repeat (first | exact (Kd.R_reads' HO_6.out).2.2 | (with_reducible refine Kd.C_alloc ?_ _) | (with_reducible refine Kd.C_drewN ?_ _) | (with_reducible refine Kd.C_drew ?_))); (case side2 => exact (Kd.R_reads' HO_6.out).2.1); rintro e w53 ⟨v411, rfl, ho0, hb⟩; have n0_ := Aside0.mk (Kd.R_below z6_ hb); have n1_ := Aside0.mk (Kd.R_below z49_ hb); have n2_ := Aside0.mk (Kd.R_lower ho0 (below_size z0_)); have n3_ := Aside0.mk (below_step z0_ hb); clear HO_6; clear HO_21; clear HB; have HO_6 := n0_; have HO_21 := n1_; have HO412 := n2_; have HB := n3_; clear n0_ n1_ n2_ n3_; (try clear hb); (try clear hb2); (try clear hk); (try clear hi); (try clear ho0); obtain ⟨Ao54, co54, eo54⟩ := Kd.R_slice HO_21.out; subst eo54) | (go_at_call 50; (with_reducible refine (impl_NetsOf.calls kj36 t379 _ _ t404 t413 t414 _ ?side1 ?side2 A48.out).mono ?_); (case side1 => repeat (first | exact (Kd.R_reads' HO_21.out).2.2 | (with_reducible refine Kd.C_alloc ?_ _) | (with_reducible refine Kd.C_drewN ?_ _) | (with_reducible refine Kd.C_drew ?_))); (case side2 => exact (Kd.R_reads' HO_21.out).2.1); rintro e w55 ⟨v415, rfl, ho0, hb⟩; have n0_ := Aside0.mk (Kd.R_below z6_ hb); have n1_ := Aside0.mk (Kd.R_below z49_ hb); have n2_ := Aside0.mk (Kd.R_elder' z51_ (Kd.R_base ho0) hb); have n3_ := Aside0.mk (Kd.R_lower (Kd.R_new' ho0 (Kd.R_lt z51_)) (below_size z0_)); have n4_ := Aside0.mk (below_step z0_ hb); clear HO_6; clear HO_21; clear HO412; clear HB; have HO_6 := n0_; have HO_21 := n1_; have HO412 := n2_; have HO416 := n3_; have HB := n4_; clear n0_ n1_ n2_ n3_ n4_; (try clear hb); (try clear hb2); (try clear hk); (try clear hi); (try clear ho0); obtain ⟨Ao56, co56, eo56⟩ := Kd.R_slice HO412.out; subst eo56; obtain ⟨Ao57, co57, eo57⟩ := Kd.R_slice HO416.out; subst eo57) | (go_at_call 46; (with_reducible refine (spec_A2Same.calls kj36 _ _ t409 _ _ t413 true _ ?side1 ?side2 ?side3 ?side4 A51.out).mono ?_); (case side1 => repeat (first | exact (Kd.R_reads' HO412.out).2.2 | (with_reducible refine Kd.C_alloc ?_ _) | (with_reducible refine Kd.C_drewN ?_ _) | (with_reducible refine Kd.C_drew ?_))); (case side2 => exact (Kd.R_reads' HO412.out).2.1); (case side3 => repeat (first | exact (Kd.R_reads' HO416.out).2.2 | (with_reducible refine Kd.C_alloc ?_ _) | (with_reducible refine Kd.C_drewN ?_ _) | (with_reducible refine Kd.C_drew ?_))); (case side4 => exact (Kd.R_reads' HO416.out).2.1); rintro e w' ⟨rfl, ⟨nd, rfl⟩⟩; (try first | exact ⟨rfl, _, World.drewN_drewN _ _ _⟩ | exact ⟨rfl, _, Eq.trans (World.drewN_drewN _ _ _) (congrArg (World.drewN _) (Nat.add_assoc _ _ _))⟩))); try go_wp2_with (first | (go_at_call 49; (with_reducible refine (spec_NetsOf.calls kj36 t379 _ _ t380 t409 t410 _ ?side1 ?side2 A47.out).mono ?_); (case side1 => repeat (first | exact (Kd.R_reads' HO_6.out).2.2 | (with_reducible refine Kd.C_alloc ?_ _) | (with_reducible refine Kd.C_drewN ?_ _) | (with_reducible refine Kd.C_drew ?_))); (case side2 => exact (Kd.R_reads' HO_6.out).2.1); rintro e w53 ⟨v411, rfl, ho0, hb⟩; have n0_ := Aside0.mk (Kd.R_below z6_ hb); have n1_ := Aside0.mk (Kd.R_below z49_ hb); have n2_ := Aside0.mk (Kd.R_lower ho0 (below_size z0_)); have n3_ := Aside0.mk (below_step z0_ hb); clear HO_6; clear HO_21; clear HB; have HO_6 := n0_; have HO_21 := n1_; have HO412 := n2_; have HB := n3_; clear n0_ n1_ n2_ n3_; (try clear hb); (try clear hb2); (try clear hk); (try clear hi); (try clear ho0); obtain ⟨Ao54, co54, eo54⟩ := Kd.R_slice HO_21.out; subst eo54) | (go_at_call 50; (with_reducible refine (impl_NetsOf.calls kj36 t379 _ _ t404 t413 t414 _ ?side1 ?side2 A48.out).mono ?_); (case side1 => repeat (first | exact (Kd.R_reads' HO_21.out).2.2 | (with_reducible refine Kd.C_alloc ?_ _) | (with_reducible refine Kd.C_drewN ?_ _) | (with_reducible refine Kd.C_drew ?_))); (case side2 => exact (Kd.R_reads' HO_21.out).2.1); rintro e w55 ⟨v415, rfl, ho0, hb⟩; have n0_ := Aside0.mk (Kd.R_below z6_ hb); have n1_ := Aside0.mk (Kd.R_below z49_ hb); have n2_ := Aside0.mk (Kd.R_elder' z51_ (Kd.R_base ho0) hb); have n3_ := Aside0.mk (Kd.R_lower (Kd.R_new' ho0 (Kd.R_lt z51_)) (below_size z0_)); have n4_ := Aside0.mk (below_step z0_ hb); clear HO_6; clear HO_21; clear HO412; clear HB; have HO_6 := n0_; have HO_21 := n1_; have HO412 := n2_; have HO416 := n3_; have HB := n4_; clear n0_ n1_ n2_ n3_ n4_; (try clear hb); (try clear hb2); (try clear hk); (try clear hi); (try clear ho0); obtain ⟨Ao56, co56, eo56⟩ := Kd.R_slice HO412.out; subst eo56; obtain ⟨Ao57, co57, eo57⟩ := Kd.R_slice HO416.out; subst eo57) | (go_at_call 46; (with_reducible refine (spec_A2Same.calls kj36 _ _ t409 _ _ t413 true _ ?side1 ?side2 ?side3 ?side4 A51.out).mono ?_); (case side1 => repeat (first | exact (Kd.R_reads' HO412.out).2.2 | (with_reducible refine Kd.C_alloc ?_ _) | (with_reducible refine Kd.C_drewN ?_ _) | (with_reducible refine Kd.C_drew ?_))); (case side2 => exact (Kd.R_reads' HO412.out).2.1); (case side3 => repeat (first | exact (Kd.R_reads' HO416.out).2.2 | (with_reducible refine Kd.C_alloc ?_ _) | (with_reducible refine Kd.C_drewN ?_ _) | (with_reducible refine Kd.C_drew ?_))); (case side4 => exact (Kd.R_reads' HO416.out).2.1); rintro e w' ⟨rfl, ⟨nd, rfl⟩⟩; (try first | exact ⟨rfl, _, World.drewN_drewN _ _ _⟩ | exact ⟨rfl, _, Eq.trans (World.drewN_drewN _ _ _) (congrArg (World.drewN _) (Nat.add_assoc _ _ _))⟩))))); go_meet
                              case rel => exact ⟨_, H', ⟨by have := HJ12.out; have := HJ27.out; have := HJ36.out; first | omega | exact Nat.le_refl _⟩, ⟨z63_⟩, ⟨z0_⟩⟩
                          · replace c52 := Bool.eq_false_iff.mpr c52; subst c52; (have H1 : (some false) = some r := z18_); clear H; have H := H1; clear H1
                            as_aux_lemma =>
                              obtain rfl := Option.some.inj H; cases ht
                        · rw [if_neg c50] at H; have c50b0 : (t414 == 0) = false := beq_eq_false_iff_ne.mpr c50; have c50b1 : (t414 != 0) = true := bne_iff_ne.mpr c50
                          as_aux_lemma =>
                            obtain rfl := Option.some.inj H; cases ht
                      · rw [if_neg c49] at H; have c49b0 : (t410 == 0) = false := beq_eq_false_iff_ne.mpr c49; have c49b1 : (t410 != 0) = true := bne_iff_ne.mpr c49
                        as_aux_lemma =>
                          obtain rfl := Option.some.inj H; cases ht
                    · rw [if_neg c46] at H; have c46b0 : (t401 == 0) = false := beq_eq_false_iff_ne.mpr c46; have c46b1 : (t401 != 0) = true := bne_iff_ne.mpr c46; (first | rw [c46b0] | (simp only [i64_w, i32_w]; rw [c46b0]) | skip)
                      as_aux_lemma =>
                        have H' := Aside0.mk H; clear H; go_wp2; (repeat (go_quiet (fail); try go_wp2)); go_meet
                        case rel => exact ⟨_, H', ⟨by have := HJ12.out; have := HJ27.out; have := HJ36.out; first | omega | exact Nat.le_refl _⟩, ⟨z63_⟩, ⟨z0_⟩⟩
                  case rest =>
                    clear HC45; (try clear c1); (try clear c2); (try clear p2); (try clear c3); (try clear c4); (try clear c5); (try clear p6); (try clear c14); (try clear c19); (try clear c19b0); (try clear c19b1); (try clear c20); (try clear c20b0); (try clear c20b1); (try clear c22); (try clear c27); (try clear c29); (try clear c29b0); (try clear c29b1); (try clear c31); (try clear c31b0); (try clear c31b1); (try clear c32); (try clear c32b0); (try clear c32b1); (try clear c40); (try clear c40b0); (try clear c40b1); (try clear c44); (try clear c46); (try clear c46b0); (try clear c46b1); (try clear c49); (try clear c49b0); (try clear c49b1); (try clear c50); (try clear c50b0); (try clear c50b1); (try clear c52); (try clear p2); (try clear p6); obtain ⟨kq, HA, HJ44, HO_6, HB⟩ := hcut
                    cases kq with
                    | zero => exact absurd HA.out (by simp [laws_FnPaid.j3])
                    | succ kj44 =>
                      have H := HA.out; clear HA; simp only [laws_FnPaid.j3] at H; obtain ⟨y418, hy418⟩ : ∃ y_ : List Int, y_ = (([] : List Int)) := ⟨_, rfl⟩; (replace H : (laws_FnPaid.l0 kj44 l1 t379 t380 y418 0) = some r := by first | (rw [hy418]; with_reducible exact H) | (have H2_ := (Option.bind_some _ _).symm.trans H; rw [hy418]; with_reducible exact H2_) | (have H2_ := (Option.bind_some _ _).symm.trans H; with_reducible exact H2_) | with_reducible exact H | (rw [hy418]; exact H) | exact H); have Ny418 := Aside0.mk hy418; clear hy418; have H' := Aside0.mk H; clear H; go_wp2_with (first | ((with_reducible refine gate_dst (N := 181) rfl ?_); refine Kd.R_lit (Kd.int .i64) _ 2 ?hg (N := 181) ?hd (xs := ([] : List Int)) (inner := []) (ok := fun _ => True) (okp := fun _ => True) ?hr ?hp (fun _ hk => hk) trivial (Below.refl _ _) (Nat.le_refl _) (by simp) ?_; (case hd => rfl); (case hg => rfl); (case hr => first | (go_simp; done) | (go_simp; rfl)); (case hp => exact (Reps.none _ _)); intro v419 w58 ho59 hb hg_ hnew_; clear hg_ hnew_; (first | rw [← Ny418.out] at ho59 | (simp only [Int.reduceToNat] at ho59; rw [← Ny418.out] at ho59)); have n0_ := Aside0.mk (Kd.R_below z6_ hb); have n1_ := Aside0.mk (Kd.R_lower ho59 (below_size z0_)); have n2_ := Aside0.mk (below_step z0_ hb); clear HO_6; clear HB; have HO_6 := n0_; have HO420 := n1_; have HB := n2_; clear n0_ n1_ n2_; clear hb ho59)); (repeat (go_quiet (first | ((with_reducible refine gate_dst (N := 181) rfl ?_); refine Kd.R_lit (Kd.int .i64) _ 2 ?hg (N := 181) ?hd (xs := ([] : List Int)) (inner := []) (ok := fun _ => True) (okp := fun _ => True) ?hr ?hp (fun _ hk => hk) trivial (Below.refl _ _) (Nat.le_refl _) (by simp) ?_; (case hd => rfl); (case hg => rfl); (case hr => first | (go_simp; done) | (go_simp; rfl)); (case hp => exact (Reps.none _ _)); intro v419 w58 ho59 hb hg_ hnew_; clear hg_ hnew_; (first | rw [← Ny418.out] at ho59 | (simp only [Int.reduceToNat] at ho59; rw [← Ny418.out] at ho59)); have n0_ := Aside0.mk (Kd.R_below z6_ hb); have n1_ := Aside0.mk (Kd.R_lower ho59 (below_size z0_)); have n2_ := Aside0.mk (below_step z0_ hb); clear HO_6; clear HB; have HO_6 := n0_; have HO420 := n1_; have HB := n2_; clear n0_ n1_ n2_; clear hb ho59)); try go_wp2_with (first | ((with_reducible refine gate_dst (N := 181) rfl ?_); refine Kd.R_lit (Kd.int .i64) _ 2 ?hg (N := 181) ?hd (xs := ([] : List Int)) (inner := []) (ok := fun _ => True) (okp := fun _ => True) ?hr ?hp (fun _ hk => hk) trivial (Below.refl _ _) (Nat.le_refl _) (by simp) ?_; (case hd => rfl); (case hg => rfl); (case hr => first | (go_simp; done) | (go_simp; rfl)); (case hp => exact (Reps.none _ _)); intro v419 w58 ho59 hb hg_ hnew_; clear hg_ hnew_; (first | rw [← Ny418.out] at ho59 | (simp only [Int.reduceToNat] at ho59; rw [← Ny418.out] at ho59)); have n0_ := Aside0.mk (Kd.R_below z6_ hb); have n1_ := Aside0.mk (Kd.R_lower ho59 (below_size z0_)); have n2_ := Aside0.mk (below_step z0_ hb); clear HO_6; clear HB; have HO_6 := n0_; have HO420 := n1_; have HB := n2_; clear n0_ n1_ n2_; clear hb ho59)))); go_loopg [27, 28] kj44 (fun kq v27 v28 w' => ∃ (x27_5 : List Int) (x28_5 : Int), v28 = .int .i64 x28_5 ∧ Aside0 (laws_FnPaid.l0 kq l1 t379 t380 x27_5 x28_5 = some r) ∧ Aside0 (kq ≤ kj44) ∧ Aside0 (Kd.R k65 65 w' w.heap.size (fun _ => True) (.slice Ao15 t380.length co15) t380) ∧ Aside0 (Kd.R (Kd.int .i64) 2 w' w.heap.size (fun _ => True) v27 x27_5) ∧ Aside0 (Below w.heap.size w w'))
                      case atStart => exact ⟨(y418), (0), z5_, H', ⟨Nat.le_refl _⟩, ⟨z6_⟩, ⟨by (with_reducible repeat (first | apply Kd.R_alloc | apply Kd.R_drewN | apply Kd.R_drew)); exact HO420.out⟩, ⟨z0_⟩⟩
                      case round =>
                        clear H'; (try clear c1); (try clear c2); (try clear p2); (try clear c3); (try clear c4); (try clear c5); (try clear p6); (try clear c14); (try clear c19); (try clear c19b0); (try clear c19b1); (try clear c20); (try clear c20b0); (try clear c20b1); (try clear c22); (try clear c27); (try clear c29); (try clear c29b0); (try clear c29b1); (try clear c31); (try clear c31b0); (try clear c31b1); (try clear c32); (try clear c32b0); (try clear c32b1); (try clear c40); (try clear c40b0); (try clear c40b1); (try clear c44); (try clear c46); (try clear c46b0); (try clear c46b1); (try clear c49); (try clear c49b0); (try clear c49b1); (try clear c50); (try clear c50b0); (try clear c50b1); (try clear c52); (try clear p2); (try clear p6); obtain ⟨x27_5, x28_5, rfl, HA, HK5, HO_6, HO_27, HB⟩ := hrel
                        cases gk with
                        | zero => exact absurd HA.out (by simp [laws_FnPaid.l0])
                        | succ k5 =>
                          have H := HA.out; clear HA; simp only [laws_FnPaid.l0] at H; by_cases c60 : x28_5 < t379
                          · rw [if_pos c60] at H; have c60b0 : decide (x28_5 < t379) = true := decide_eq_true c60; clear c60; replace H := Option.bind_eq_some_iff.mp H; obtain ⟨t421, A610, H⟩ := H; replace H : (if x27_5.length < 17592186044416 then (laws_FnPaid.l0 k5 l1 t379 t380 (x27_5 ++ [t421]) (wrap64 (x28_5 + 1))) else (none)) = some r := H; have A61 := Aside0.mk A610; clear A610; by_cases c62 : x27_5.length < 17592186044416
                            · rw [if_pos c62] at H; have LMc62 := Aside0.mk c62; clear c62; obtain ⟨y422, hy422⟩ : ∃ y_ : List Int, y_ = (x27_5 ++ [t421]) := ⟨_, rfl⟩; (replace H : (laws_FnPaid.l0 k5 l1 t379 t380 y422 (wrap64 (x28_5 + 1))) = some r := by first | (rw [hy422]; with_reducible exact H) | (have H2_ := (Option.bind_some _ _).symm.trans H; rw [hy422]; with_reducible exact H2_) | (have H2_ := (Option.bind_some _ _).symm.trans H; with_reducible exact H2_) | with_reducible exact H | (rw [hy422]; exact H) | exact H); have Ny422 := Aside0.mk hy422; clear hy422
                              as_aux_lemma =>
                                have H' := Aside0.mk H; clear H; go_wp2_with (first | (go_at_call 51; (with_reducible refine (laws_a2At.calls _ _ l1 (wrap64 (4 + x28_5)) 100 t421 _ ?side1 ?side2 A61.out).mono ?_); (case side1 => repeat (first | exact (Kd.C_below HR1.out HB.out) | (with_reducible refine Kd.C_alloc ?_ _) | (with_reducible refine Kd.C_drewN ?_ _) | (with_reducible refine Kd.C_drew ?_))); (case side2 => exact HC1.out); rintro e w' ⟨rfl, ⟨nd, rfl⟩⟩; (try first | exact ⟨rfl, _, World.drewN_drewN _ _ _⟩ | exact ⟨rfl, _, Eq.trans (World.drewN_drewN _ _ _) (congrArg (World.drewN _) (Nat.add_assoc _ _ _))⟩)) | ((with_reducible refine gate_builtin (b := .append) (xs := #[.tmp 187, .tmp 192]) rfl ?_); at_builtin; refine Kd.R_append (Kd.int .i64) (w0 := w) w.heap.size rfl (.tmp 187) (.tmp 192) 34 2 (.int .i64 0) 8 rfl Try.underlying34 info2 rfl (by decide) (by omega) u27 x27_5 t421 [.int .i64 t421] (fun _ => True) (fun _ => False) rfl rfl ?aP (fun _ hk => hk.elim) ?aF ?aO ?aB ?aS ?aL ?_; (case aP => exact rfl); (case aB => exact z0_); (case aF => exact (fun _ _ => trivial)); (case aO => exact z11_); (case aS => exact (below_size z0_)); (case aL => have := LMc62.out; omega); intro v423 w63 ho hb hg hat; rw [← Ny422.out] at ho; have n0_ := Aside0.mk (Kd.R_over' z6_ (Kd.R_typed z11_) (by decide) hg); have n1_ := Aside0.mk (hb); have n2_ := Aside0.mk (ho); clear HO_6; clear HB; clear HO_27; have HO_6 := n0_; have HB := n1_; have HO424 := n2_; clear n0_ n1_ n2_; clear ho hb hg hat)); (repeat (go_quiet (first | (go_at_call 51; (with_reducible refine (laws_a2At.calls _ _ l1 (wrap64 (4 + x28_5)) 100 t421 _ ?side1 ?side2 A61.out).mono ?_); (case side1 => repeat (first | exact (Kd.C_below HR1.out HB.out) | (with_reducible refine Kd.C_alloc ?_ _) | (with_reducible refine Kd.C_drewN ?_ _) | (with_reducible refine Kd.C_drew ?_))); (case side2 => exact HC1.out); rintro e w' ⟨rfl, ⟨nd, rfl⟩⟩; (try first | exact ⟨rfl, _, World.drewN_drewN _ _ _⟩ | exact ⟨rfl, _, Eq.trans (World.drewN_drewN _ _ _) (congrArg (World.drewN _) (Nat.add_assoc _ _ _))⟩)) | ((with_reducible refine gate_builtin (b := .append) (xs := #[.tmp 187, .tmp 192]) rfl ?_); at_builtin; refine Kd.R_append (Kd.int .i64) (w0 := w) w.heap.size rfl (.tmp 187) (.tmp 192) 34 2 (.int .i64 0) 8 rfl Try.underlying34 info2 rfl (by decide) (by omega) u27 x27_5 t421 [.int .i64 t421] (fun _ => True) (fun _ => False) rfl rfl ?aP (fun _ hk => hk.elim) ?aF ?aO ?aB ?aS ?aL ?_; (case aP => exact rfl); (case aB => exact z0_); (case aF => exact (fun _ _ => trivial)); (case aO => exact z11_); (case aS => exact (below_size z0_)); (case aL => have := LMc62.out; omega); intro v423 w63 ho hb hg hat; rw [← Ny422.out] at ho; have n0_ := Aside0.mk (Kd.R_over' z6_ (Kd.R_typed z11_) (by decide) hg); have n1_ := Aside0.mk (hb); have n2_ := Aside0.mk (ho); clear HO_6; clear HB; clear HO_27; have HO_6 := n0_; have HB := n1_; have HO424 := n2_; clear n0_ n1_ n2_; clear ho hb hg hat)); try go_wp2_with (first | (go_at_call 51; (with_reducible refine (laws_a2At.calls _ _ l1 (wrap64 (4 + x28_5)) 100 t421 _ ?side1 ?side2 A61.out).mono ?_); (case side1 => repeat (first | exact (Kd.C_below HR1.out HB.out) | (with_reducible refine Kd.C_alloc ?_ _) | (with_reducible refine Kd.C_drewN ?_ _) | (with_reducible refine Kd.C_drew ?_))); (case side2 => exact HC1.out); rintro e w' ⟨rfl, ⟨nd, rfl⟩⟩; (try first | exact ⟨rfl, _, World.drewN_drewN _ _ _⟩ | exact ⟨rfl, _, Eq.trans (World.drewN_drewN _ _ _) (congrArg (World.drewN _) (Nat.add_assoc _ _ _))⟩)) | ((with_reducible refine gate_builtin (b := .append) (xs := #[.tmp 187, .tmp 192]) rfl ?_); at_builtin; refine Kd.R_append (Kd.int .i64) (w0 := w) w.heap.size rfl (.tmp 187) (.tmp 192) 34 2 (.int .i64 0) 8 rfl Try.underlying34 info2 rfl (by decide) (by omega) u27 x27_5 t421 [.int .i64 t421] (fun _ => True) (fun _ => False) rfl rfl ?aP (fun _ hk => hk.elim) ?aF ?aO ?aB ?aS ?aL ?_; (case aP => exact rfl); (case aB => exact z0_); (case aF => exact (fun _ _ => trivial)); (case aO => exact z11_); (case aS => exact (below_size z0_)); (case aL => have := LMc62.out; omega); intro v423 w63 ho hb hg hat; rw [← Ny422.out] at ho; have n0_ := Aside0.mk (Kd.R_over' z6_ (Kd.R_typed z11_) (by decide) hg); have n1_ := Aside0.mk (hb); have n2_ := Aside0.mk (ho); clear HO_6; clear HB; clear HO_27; have HO_6 := n0_; have HB := n1_; have HO424 := n2_; clear n0_ n1_ n2_; clear ho hb hg hat)))); go_roundg k5
                                case measure => have := HJ12.out; have := HJ27.out; have := HJ36.out; have := HJ44.out; have := HK5.out; omega
                                case rel => exact ⟨(y422), (wrap64 (x28_5 + 1)), z5_, H', ⟨by have := HJ12.out; have := HJ27.out; have := HJ36.out; have := HJ44.out; have := HK5.out; omega⟩, ⟨z6_⟩, ⟨by (with_reducible repeat (first | apply Kd.R_alloc | apply Kd.R_drewN | apply Kd.R_drew)); exact HO424.out⟩, ⟨z0_⟩⟩
                            · rw [if_neg c62] at H; exact absurd H (by simp)
                          · rw [if_neg c60] at H; have c60b0 : decide (x28_5 < t379) = false := decide_eq_false c60; clear c60; replace H := Option.bind_eq_some_iff.mp H; obtain ⟨⟨t425, t426⟩, A640, H⟩ := H; replace H : ((spec_CanPayFrom.f k5 t379 t380 x27_5).bind fun bt429 => (if t426 = bt429.2 then (if t426 = 0 then ((spec_A2Same.f k5 t425 bt429.1).bind fun t433 => (laws_FnPaid.j5 k5 t379 t380 x27_5 bt429.1 (!t433))) else (laws_FnPaid.j5 k5 t379 t380 x27_5 bt429.1 true)) else (laws_FnPaid.j5 k5 t379 t380 x27_5 bt429.1 true))) = some r := H; have A64 := Aside0.mk A640; clear A640; replace H := Option.bind_eq_some_iff.mp H; obtain ⟨⟨t429, t430⟩, A650, H⟩ := H; replace H : (if t426 = t430 then (if t426 = 0 then ((spec_A2Same.f k5 t425 t429).bind fun t433 => (laws_FnPaid.j5 k5 t379 t380 x27_5 t429 (!t433))) else (laws_FnPaid.j5 k5 t379 t380 x27_5 t429 true)) else (laws_FnPaid.j5 k5 t379 t380 x27_5 t429 true)) = some r := H; have A65 := Aside0.mk A650; clear A650; have HC66 := Aside0.mk H; clear H; obtain ⟨Ao67, co67, eo67⟩ := Kd.R_slice HO_27.out; subst eo67; go_upto_region 33 with (first | (go_at_call 43; (with_reducible refine (impl_CanPayFrom.calls k5 t379 _ _ t380 _ _ x27_5 t425 t426 _ ?side1 ?side2 ?side3 ?side4 A64.out).mono ?_); (case side1 => repeat (first | exact (Kd.R_reads' HO_6.out).2.2 | (with_reducible refine Kd.C_alloc ?_ _) | (with_reducible refine Kd.C_drewN ?_ _) | (with_reducible refine Kd.C_drew ?_))); (case side2 => exact (Kd.R_reads' HO_6.out).2.1); (case side3 => repeat (first | exact (Kd.R_reads' HO_27.out).2.2 | (with_reducible refine Kd.C_alloc ?_ _) | (with_reducible refine Kd.C_drewN ?_ _) | (with_reducible refine Kd.C_drew ?_))); (case side4 => exact (Kd.R_reads' HO_27.out).2.1); rintro e w68 ⟨v427, rfl, ho0, hb⟩; have n0_ := Aside0.mk (Kd.R_below z6_ hb); have n1_ := Aside0.mk (Kd.R_elder' z11_ (Kd.R_base ho0) hb); have n2_ := Aside0.mk (Kd.R_lower (Kd.R_new' ho0 (Kd.R_lt z11_)) (below_size z0_)); have n3_ := Aside0.mk (below_step z0_ hb); clear HO_6; clear HO_27; clear HB; have HO_6 := n0_; have HO_27 := n1_; have HO428 := n2_; have HB := n3_; clear n0_ n1_ n2_ n3_; (try clear hb); (try clear hb2); (try clear hk); (try clear hi); (try clear ho0)) | (go_at_call 42; (with_reducible refine (spec_CanPayFrom.calls k5 t379 _ _ t380 _ _ x27_5 t429 t430 _ ?side1 ?side2 ?side3 ?side4 A65.out).mono ?_); (case side1 => repeat (first | exact (Kd.R_reads' HO_6.out).2.2 | (with_reducible refine Kd.C_alloc ?_ _) | (with_reducible refine Kd.C_drewN ?_ _) | (with_reducible refine Kd.C_drew ?_))); (case side2 => exact (Kd.R_reads' HO_6.out).2.1); (case side3 => repeat (first | exact (Kd.R_reads' HO_27.out).2.2 | (with_reducible refine Kd.C_alloc ?_ _) | (with_reducible refine Kd.C_drewN ?_ _) | (with_reducible refine Kd.C_drew ?_))); (case side4 => exact (Kd.R_reads' HO_27.out).2.1); rintro e w69 ⟨v431, rfl, ho0, hb⟩; have n0_ := Aside0.mk (Kd.R_below z6_ hb); have n1_ := Aside0.mk (Kd.R_elder' z11_ (Kd.R_base ho0) hb); have n2_ := Aside0.mk (Kd.R_elder' z50_ (Kd.R_base ho0) hb); have n3_ := Aside0.mk (Kd.R_lower (Kd.R_new' (Kd.R_new' ho0 (Kd.R_lt z11_)) (Kd.R_lt z50_)) (below_size z0_)); have n4_ := Aside0.mk (below_step z0_ hb); clear HO_6; clear HO_27; clear HO428; clear HB; have HO_6 := n0_; have HO_27 := n1_; have HO428 := n2_; have HO432 := n3_; have HB := n4_; clear n0_ n1_ n2_ n3_ n4_; (try clear hb); (try clear hb2); (try clear hk); (try clear hi); (try clear ho0))); (repeat (go_quiet (first | (go_at_call 43; (with_reducible refine (impl_CanPayFrom.calls k5 t379 _ _ t380 _ _ x27_5 t425 t426 _ ?side1 ?side2 ?side3 ?side4 A64.out).mono ?_); (case side1 => repeat (first | exact (Kd.R_reads' HO_6.out).2.2 | (with_reducible refine Kd.C_alloc ?_ _) | (with_reducible refine Kd.C_drewN ?_ _) | (with_reducible refine Kd.C_drew ?_))); (case side2 => exact (Kd.R_reads' HO_6.out).2.1); (case side3 => repeat (first | exact (Kd.R_reads' HO_27.out).2.2 | (with_reducible refine Kd.C_alloc ?_ _) | (with_reducible refine Kd.C_drewN ?_ _) | (with_reducible refine Kd.C_drew ?_))); (case side4 => exact (Kd.R_reads' HO_27.out).2.1); rintro e w68 ⟨v427, rfl, ho0, hb⟩; have n0_ := Aside0.mk (Kd.R_below z6_ hb); have n1_ := Aside0.mk (Kd.R_elder' z11_ (Kd.R_base ho0) hb); have n2_ := Aside0.mk (Kd.R_lower (Kd.R_new' ho0 (Kd.R_lt z11_)) (below_size z0_)); have n3_ := Aside0.mk (below_step z0_ hb); clear HO_6; clear HO_27; clear HB; have HO_6 := n0_; have HO_27 := n1_; have HO428 := n2_; have HB := n3_; clear n0_ n1_ n2_ n3_; (try clear hb); (try clear hb2); (try clear hk); (try clear hi); (try clear ho0)) | (go_at_call 42; (with_reducible refine (spec_CanPayFrom.calls k5 t379 _ _ t380 _ _ x27_5 t429 t430 _ ?side1 ?side2 ?side3 ?side4 A65.out).mono ?_); (case side1 => repeat (first | exact (Kd.R_reads' HO_6.out).2.2 | (with_reducible refine Kd.C_alloc ?_ _) | (with_reducible refine Kd.C_drewN ?_ _) | (with_reducible refine Kd.C_drew ?_))); (case side2 => exact (Kd.R_reads' HO_6.out).2.1); (case side3 => repeat (first | exact (Kd.R_reads' HO_27.out).2.2 | (with_reducible refine Kd.C_alloc ?_ _) | (with_reducible refine Kd.C_drewN ?_ _) | (with_reducible refine Kd.C_drew ?_))); (case side4 => exact (Kd.R_reads' HO_27.out).2.1); rintro e w69 ⟨v431, rfl, ho0, hb⟩; have n0_ := Aside0.mk (Kd.R_below z6_ hb); have n1_ := Aside0.mk (Kd.R_elder' z11_ (Kd.R_base ho0) hb); have n2_ := Aside0.mk (Kd.R_elder' z50_ (Kd.R_base ho0) hb); have n3_ := Aside0.mk (Kd.R_lower (Kd.R_new' (Kd.R_new' ho0 (Kd.R_lt z11_)) (Kd.R_lt z50_)) (below_size z0_)); have n4_ := Aside0.mk (below_step z0_ hb); clear HO_6; clear HO_27; clear HO428; clear HB; have HO_6 := n0_; have HO_27 := n1_; have HO428 := n2_; have HO432 := n3_; have HB := n4_; clear n0_ n1_ n2_ n3_ n4_; (try clear hb); (try clear hb2); (try clear hk); (try clear hi); (try clear ho0))); go_upto_region 33 with (first | (go_at_call 43; (with_reducible refine (impl_CanPayFrom.calls k5 t379 _ _ t380 _ _ x27_5 t425 t426 _ ?side1 ?side2 ?side3 ?side4 A64.out).mono ?_); (case side1 => repeat (first | exact (Kd.R_reads' HO_6.out).2.2 | (with_reducible refine Kd.C_alloc ?_ _) | (with_reducible refine Kd.C_drewN ?_ _) | (with_reducible refine Kd.C_drew ?_))); (case side2 => exact (Kd.R_reads' HO_6.out).2.1); (case side3 => repeat (first | exact (Kd.R_reads' HO_27.out).2.2 | (with_reducible refine Kd.C_alloc ?_ _) | (with_reducible refine Kd.C_drewN ?_ _) | (with_reducible refine Kd.C_drew ?_))); (case side4 => exact (Kd.R_reads' HO_27.out).2.1); rintro e w68 ⟨v427, rfl, ho0, hb⟩; have n0_ := Aside0.mk (Kd.R_below z6_ hb); have n1_ := Aside0.mk (Kd.R_elder' z11_ (Kd.R_base ho0) hb); have n2_ := Aside0.mk (Kd.R_lower (Kd.R_new' ho0 (Kd.R_lt z11_)) (below_size z0_)); have n3_ := Aside0.mk (below_step z0_ hb); clear HO_6; clear HO_27; clear HB; have HO_6 := n0_; have HO_27 := n1_; have HO428 := n2_; have HB := n3_; clear n0_ n1_ n2_ n3_; (try clear hb); (try clear hb2); (try clear hk); (try clear hi); (try clear ho0)) | (go_at_call 42; (with_reducible refine (spec_CanPayFrom.calls k5 t379 _ _ t380 _ _ x27_5 t429 t430 _ ?side1 ?side2 ?side3 ?side4 A65.out).mono ?_); (case side1 => repeat (first | exact (Kd.R_reads' HO_6.out).2.2 | (with_reducible refine Kd.C_alloc ?_ _) | (with_reducible refine Kd.C_drewN ?_ _) | (with_reducible refine Kd.C_drew ?_))); (case side2 => exact (Kd.R_reads' HO_6.out).2.1); (case side3 => repeat (first | exact (Kd.R_reads' HO_27.out).2.2 | (with_reducible refine Kd.C_alloc ?_ _) | (with_reducible refine Kd.C_drewN ?_ _) | (with_reducible refine Kd.C_drew ?_))); (case side4 => exact (Kd.R_reads' HO_27.out).2.1); rintro e w69 ⟨v431, rfl, ho0, hb⟩; have n0_ := Aside0.mk (Kd.R_below z6_ hb); have n1_ := Aside0.mk (Kd.R_elder' z11_ (Kd.R_base ho0) hb); have n2_ := Aside0.mk (Kd.R_elder' z50_ (Kd.R_base ho0) hb); have n3_ := Aside0.mk (Kd.R_lower (Kd.R_new' (Kd.R_new' ho0 (Kd.R_lt z11_)) (Kd.R_lt z50_)) (below_size z0_)); have n4_ := Aside0.mk (below_step z0_ hb); clear HO_6; clear HO_27; clear HO428; clear HB; have HO_6 := n0_; have HO_27 := n1_; have HO428 := n2_; have HO432 := n3_; have HB := n4_; clear n0_ n1_ n2_ n3_ n4_; (try clear hb); (try clear hb2); (try clear hk); (try clear hi); (try clear ho0))))); (try simp only [Act.put, List.setIfInBounds_toArray, List.set_cons_zero, List.set_cons_succ]); go_cut [220] (fun v220 wc => ∃ (kq : Nat) (x220_65 : Bool), v220 = .bool x220_65 ∧ Aside0 (laws_FnPaid.j5 kq t379 t380 x27_5 t429 x220_65 = some r) ∧ Aside0 (kq ≤ k5) ∧ Aside0 (Kd.R k65 65 wc w.heap.size (fun _ => True) (.slice Ao15 t380.length co15) t380) ∧ Aside0 (Kd.R (Kd.int .i64) 2 wc w.heap.size (fun k_ => some k_ ≠ (v431 : Value).ownBlock) (.slice Ao67 x27_5.length co67) x27_5) ∧ Aside0 (Kd.R (Kd.int .i64) 2 wc w.heap.size (fun k_ => some k_ ≠ ((.slice Ao67 x27_5.length co67) : Value).ownBlock) v431 t429) ∧ Aside0 (Below w.heap.size w wc))
                            case first =>
                              have H := HC66.out; clear HC66; by_cases c70 : t426 = t430
                              · rw [if_pos c70] at H; have c70b0 : (t426 == t430) = true := beq_iff_eq.mpr c70; have c70b1 : (t426 != t430) = false := bne_eq_false_iff_eq.mpr c70; clear c70; (first | rw [c70b0] | (simp only [i64_w, i32_w]; rw [c70b0]) | skip); by_cases c71 : t426 = 0
                                · rw [if_pos c71] at H; have c71b0 : (t426 == 0) = true := beq_iff_eq.mpr c71; have c71b1 : (t426 != 0) = false := bne_eq_false_iff_eq.mpr c71; clear c71; replace H := Option.bind_eq_some_iff.mp H; obtain ⟨t433, A720, H⟩ := H; replace H : (laws_FnPaid.j5 k5 t379 t380 x27_5 t429 (!t433)) = some r := H; have A72 := Aside0.mk A720; clear A720
                                  as_aux_lemma =>
                                    have H' := Aside0.mk H; clear H; obtain ⟨Ao73, co73, eo73⟩ := Kd.R_slice HO428.out; subst eo73; obtain ⟨Ao74, co74, eo74⟩ := Kd.R_slice HO432.out; subst eo74; go_wp2_with (first | (go_at_call 46; (with_reducible refine (spec_A2Same.calls k5 _ _ t425 _ _ t429 t433 _ ?side1 ?side2 ?side3 ?side4 A72.out).mono ?_); (case side1 => repeat (first | exact (Kd.R_reads' HO428.out).2.2 | (with_reducible refine Kd.C_alloc ?_ _) | (with_reducible refine Kd.C_drewN ?_ _) | (with_reducible refine Kd.C_drew ?_))); (case side2 => exact (Kd.R_reads' HO428.out).2.1); (case side3 => repeat (first | exact (Kd.R_reads' HO432.out).2.2 | (with_reducible refine Kd.C_alloc ?_ _) | (with_reducible refine Kd.C_drewN ?_ _) | (with_reducible refine Kd.C_drew ?_))); (case side4 => exact (Kd.R_reads' HO432.out).2.1); rintro e w' ⟨rfl, ⟨nd, rfl⟩⟩; (try first | exact ⟨rfl, _, World.drewN_drewN _ _ _⟩ | exact ⟨rfl, _, Eq.trans (World.drewN_drewN _ _ _) (congrArg (World.drewN _) (Nat.add_assoc _ _ _))⟩))); (repeat (go_quiet (first | (go_at_call 46; (with_reducible refine (spec_A2Same.calls k5 _ _ t425 _ _ t429 t433 _ ?side1 ?side2 ?side3 ?side4 A72.out).mono ?_); (case side1 => repeat (first | exact (Kd.R_reads' HO428.out).2.2 | (with_reducible refine Kd.C_alloc ?_ _) | (with_reducible refine Kd.C_drewN ?_ _) | (with_reducible refine Kd.C_drew ?_))); (case side2 => exact (Kd.R_reads' HO428.out).2.1); (case side3 => repeat (first | exact (Kd.R_reads' HO432.out).2.2 | (with_reducible refine Kd.C_alloc ?_ _) | (with_reducible refine Kd.C_drewN ?_ _) | (with_reducible refine Kd.C_drew ?_))); (case side4 => exact (Kd.R_reads' HO432.out).2.1); rintro e w' ⟨rfl, ⟨nd, rfl⟩⟩; (try first | exact ⟨rfl, _, World.drewN_drewN _ _ _⟩ | exact ⟨rfl, _, Eq.trans (World.drewN_drewN _ _ _) (congrArg (World.drewN _) (Nat.add_assoc _ _ _))⟩))); try go_wp2_with (first | (go_at_call 46; (with_reducible refine (spec_A2Same.calls k5 _ _ t425 _ _ t429 t433 _ ?side1 ?side2 ?side3 ?side4 A72.out).mono ?_); (case side1 => repeat (first | exact (Kd.R_reads' HO428.out).2.2 | (with_reducible refine Kd.C_alloc ?_ _) | (with_reducible refine Kd.C_drewN ?_ _) | (with_reducible refine Kd.C_drew ?_))); (case side2 => exact (Kd.R_reads' HO428.out).2.1); (case side3 => repeat (first | exact (Kd.R_reads' HO432.out).2.2 | (with_reducible refine Kd.C_alloc ?_ _) | (with_reducible refine Kd.C_drewN ?_ _) | (with_reducible refine Kd.C_drew ?_))); (case side4 => exact (Kd.R_reads' HO432.out).2.1); rintro e w' ⟨rfl, ⟨nd, rfl⟩⟩; (try first | exact ⟨rfl, _, World.drewN_drewN _ _ _⟩ | exact ⟨rfl, _, Eq.trans (World.drewN_drewN _ _ _) (congrArg (World.drewN _) (Nat.add_assoc _ _ _))⟩))))); go_meet
                                    case rel => exact ⟨_, (!t433), z5_, H', ⟨z71_⟩, ⟨z6_⟩, ⟨z70_⟩, ⟨z69_⟩, ⟨z0_⟩⟩
                                · rw [if_neg c71] at H; have c71b0 : (t426 == 0) = false := beq_eq_false_iff_ne.mpr c71; have c71b1 : (t426 != 0) = true := bne_iff_ne.mpr c71
                                  as_aux_lemma =>
                                    have H' := Aside0.mk H; clear H; go_wp2; (repeat (go_quiet (fail); try go_wp2)); go_meet
                                    case rel => exact ⟨_, (true), z5_, H', ⟨z71_⟩, ⟨z6_⟩, ⟨z70_⟩, ⟨z69_⟩, ⟨z0_⟩⟩
                              · rw [if_neg c70] at H; have c70b0 : (t426 == t430) = false := beq_eq_false_iff_ne.mpr c70; have c70b1 : (t426 != t430) = true := bne_iff_ne.mpr c70; (first | rw [c70b0] | (simp only [i64_w, i32_w]; rw [c70b0]) | skip)
                                as_aux_lemma =>
                                  have H' := Aside0.mk H; clear H; go_wp2; (repeat (go_quiet (fail); try go_wp2)); go_meet
                                  case rel => exact ⟨_, (true), z5_, H', ⟨z71_⟩, ⟨z6_⟩, ⟨z70_⟩, ⟨z69_⟩, ⟨z0_⟩⟩
                            case rest =>
                              clear HC66; (try clear c1); (try clear c2); (try clear p2); (try clear c3); (try clear c4); (try clear c5); (try clear c6); (try clear p6); (try clear c7); (try clear c14); (try clear c19); (try clear c19b0); (try clear c19b1); (try clear c20); (try clear c20b0); (try clear c20b1); (try clear c22); (try clear c27); (try clear c29); (try clear c29b0); (try clear c29b1); (try clear c31); (try clear c31b0); (try clear c31b1); (try clear c32); (try clear c32b0); (try clear c32b1); (try clear c40); (try clear c40b0); (try clear c40b1); (try clear c44); (try clear c46); (try clear c46b0); (try clear c46b1); (try clear c49); (try clear c49b0); (try clear c49b1); (try clear c50); (try clear c50b0); (try clear c50b1); (try clear c52); (try clear c60); (try clear c60b0); (try clear c62); (try clear p64); (try clear c70); (try clear c70b0); (try clear c70b1); (try clear c71); (try clear c71b0); (try clear c71b1); (try clear p2); (try clear p6); obtain ⟨kq, x220_65, rfl, HA, HJ65, HO_6, HO_27, HO_31, HB⟩ := hcut
                              cases kq with
                              | zero => exact absurd HA.out (by simp [laws_FnPaid.j5])
                              | succ kj65 =>
                                have H := HA.out; clear HA; simp only [laws_FnPaid.j5] at H; by_cases c75 : x220_65 = true
                                · subst c75; (have H1 : (some false) = some r := z41_); clear H; have H := H1; clear H1
                                  as_aux_lemma =>
                                    obtain rfl := Option.some.inj H; cases ht
                                · replace c75 := Bool.eq_false_iff.mpr c75; subst c75; (have H1 : (laws_FnPaid.l1 kj65 t379 t380 x27_5 t429 0) = some r := z18_); clear H; have H := H1; clear H1; have H' := Aside0.mk H; clear H; go_wp2; (repeat (go_quiet (fail); try go_wp2)); go_loopg [33] kj65 (fun kq v33 w' => ∃ (x33_7 : Int), v33 = .int .i64 x33_7 ∧ Aside0 (laws_FnPaid.l1 kq t379 t380 x27_5 t429 x33_7 = some r) ∧ Aside0 (kq ≤ kj65) ∧ Aside0 (Kd.R k65 65 w' w.heap.size (fun _ => True) (.slice Ao15 t380.length co15) t380) ∧ Aside0 (Kd.R (Kd.int .i64) 2 w' w.heap.size (fun k_ => some k_ ≠ (v431 : Value).ownBlock) (.slice Ao67 x27_5.length co67) x27_5) ∧ Aside0 (Kd.R (Kd.int .i64) 2 w' w.heap.size (fun k_ => some k_ ≠ ((.slice Ao67 x27_5.length co67) : Value).ownBlock) v431 t429) ∧ Aside0 (Below w.heap.size w w'))
                                  case atStart => exact ⟨(0), z5_, H', ⟨Nat.le_refl _⟩, ⟨z6_⟩, ⟨z11_⟩, ⟨z30_⟩, ⟨z0_⟩⟩
                                  case round =>
                                    clear H'; (try clear c1); (try clear c2); (try clear p2); (try clear c3); (try clear c4); (try clear c5); (try clear c6); (try clear p6); (try clear c7); (try clear c14); (try clear c19); (try clear c19b0); (try clear c19b1); (try clear c20); (try clear c20b0); (try clear c20b1); (try clear c22); (try clear c27); (try clear c29); (try clear c29b0); (try clear c29b1); (try clear c31); (try clear c31b0); (try clear c31b1); (try clear c32); (try clear c32b0); (try clear c32b1); (try clear c40); (try clear c40b0); (try clear c40b1); (try clear c44); (try clear c46); (try clear c46b0); (try clear c46b1); (try clear c49); (try clear c49b0); (try clear c49b1); (try clear c50); (try clear c50b0); (try clear c50b1); (try clear c52); (try clear c60); (try clear c60b0); (try clear c62); (try clear p64); (try clear c70); (try clear c70b0); (try clear c70b1); (try clear c71); (try clear c71b0); (try clear c71b1); (try clear c75); (try clear p2); (try clear p6); (try clear p64); obtain ⟨x33_7, rfl, HA, HK7, HO_6, HO_27, HO_31, HB⟩ := hrel
                                    cases gk with
                                    | zero => exact absurd HA.out (by simp [laws_FnPaid.l1])
                                    | succ k7 =>
                                      have H := HA.out; clear HA; simp only [laws_FnPaid.l1] at H; by_cases c76 : x33_7 < (t429.length : Int)
                                      · rw [if_pos c76] at H; have c76b0 : decide (x33_7 < (t429.length : Int)) = true := decide_eq_true c76; clear c76; have HC77 := Aside0.mk H; clear H; obtain ⟨Ao78, co78, eo78⟩ := Kd.R_slice HO_31.out; subst eo78; go_upto_region 38 with (fail); (repeat (go_quiet (fail); go_upto_region 38 with (fail))); go_cut [239] (fun v239 wc => ∃ (kq : Nat) (x239_76 : Bool), v239 = .bool x239_76 ∧ Aside0 (laws_FnPaid.j7 kq t379 t380 x27_5 t429 x33_7 x239_76 = some r) ∧ Aside0 (kq ≤ k7) ∧ Aside0 (Kd.R k65 65 wc w.heap.size (fun _ => True) (.slice Ao15 t380.length co15) t380) ∧ Aside0 (Kd.R (Kd.int .i64) 2 wc w.heap.size (fun k_ => some k_ ≠ ((.slice Ao78 t429.length co78) : Value).ownBlock) (.slice Ao67 x27_5.length co67) x27_5) ∧ Aside0 (Kd.R (Kd.int .i64) 2 wc w.heap.size (fun k_ => some k_ ≠ ((.slice Ao67 x27_5.length co67) : Value).ownBlock) (.slice Ao78 t429.length co78) t429) ∧ Aside0 (Below w.heap.size w wc))
                                        case first =>
                                          have H := HC77.out; clear HC77; by_cases c79 : 0 ≤ x33_7
                                          · rw [if_pos c79] at H; have c79b0 : decide (0 ≤ x33_7) = true := decide_eq_true c79; clear c79; (first | rw [c79b0] | (simp only [i64_w, i32_w]; rw [c79b0]) | skip); by_cases c80 : (rd t429 x33_7) < 0
                                            · rw [if_pos c80] at H; have c80b0 : decide ((rd t429 x33_7) < 0) = true := decide_eq_true c80; clear c80
                                              as_aux_lemma =>
                                                have H' := Aside0.mk H; clear H; have p434 : 0 ≤ (x33_7 : Int) := of_decide_eq_true z1_; have q434 : x33_7 < (t429.length : Int) := of_decide_eq_true z1_; obtain ⟨ad434, e434, hx434_0⟩ := Kd.at_int (Kd.R_reads' HO_31.out).2.2 x33_7 p434 q434; cases e434; replace p434 := eq_true p434; replace q434 := eq_true q434; go_wp2; (repeat (go_quiet (fail); try go_wp2)); go_meet
                                                case rel => exact ⟨_, (true), z5_, H', ⟨by have := HJ12.out; have := HJ27.out; have := HJ36.out; have := HJ44.out; have := HK5.out; have := HJ65.out; have := HK7.out; first | omega | exact Nat.le_refl _⟩, ⟨z6_⟩, ⟨z11_⟩, ⟨z30_⟩, ⟨z0_⟩⟩
                                            · rw [if_neg c80] at H; have c80b0 : decide ((rd t429 x33_7) < 0) = false := decide_eq_false c80; clear c80
                                              as_aux_lemma =>
                                                have H' := Aside0.mk H; clear H; have p434 : 0 ≤ (x33_7 : Int) := of_decide_eq_true z1_; have q434 : x33_7 < (t429.length : Int) := of_decide_eq_true z1_; obtain ⟨ad434, e434, hx434_0⟩ := Kd.at_int (Kd.R_reads' HO_31.out).2.2 x33_7 p434 q434; cases e434; replace p434 := eq_true p434; replace q434 := eq_true q434; have p435 : 0 ≤ (x33_7 : Int) := of_decide_eq_true z1_; have q435 : x33_7 < (t429.length : Int) := of_decide_eq_true z1_; obtain ⟨ad435, e435, hx435_0⟩ := Kd.at_int (Kd.R_reads' HO_31.out).2.2 x33_7 p435 q435; obtain rfl : ad434 = ad435 := (by injection e435); replace p435 := eq_true p435; replace q435 := eq_true q435; go_wp2; (repeat (go_quiet (fail); try go_wp2)); go_meet
                                                case rel => exact ⟨_, (decide ((rd t429 x33_7) ≥ t379)), z5_, H', ⟨by have := HJ12.out; have := HJ27.out; have := HJ36.out; have := HJ44.out; have := HK5.out; have := HJ65.out; have := HK7.out; first | omega | exact Nat.le_refl _⟩, ⟨z6_⟩, ⟨z11_⟩, ⟨z30_⟩, ⟨z0_⟩⟩
                                          · rw [if_neg c79] at H; exact absurd H (by simp)
                                        case rest =>
                                          clear HC77; (try clear c1); (try clear c2); (try clear p2); (try clear c3); (try clear c4); (try clear p4); (try clear q4); (try clear hx4); (try clear c5); (try clear c6); (try clear p6); (try clear c7); (try clear c8); (try clear c14); (try clear c19); (try clear c19b0); (try clear c19b1); (try clear c20); (try clear c20b0); (try clear c20b1); (try clear c22); (try clear c27); (try clear c29); (try clear c29b0); (try clear c29b1); (try clear c31); (try clear c31b0); (try clear c31b1); (try clear c32); (try clear c32b0); (try clear c32b1); (try clear c40); (try clear c40b0); (try clear c40b1); (try clear p43); (try clear q43); (try clear hx43); (try clear c44); (try clear c46); (try clear c46b0); (try clear c46b1); (try clear c49); (try clear c49b0); (try clear c49b1); (try clear c50); (try clear c50b0); (try clear c50b1); (try clear c52); (try clear c60); (try clear c60b0); (try clear c62); (try clear p64); (try clear c70); (try clear c70b0); (try clear c70b1); (try clear c71); (try clear c71b0); (try clear c71b1); (try clear c75); (try clear c76); (try clear c76b0); (try clear c79); (try clear c79b0); (try clear c80); (try clear c80b0); (try clear hx434_0); (try clear hx435_0); (try clear p2); (try clear p434); (try clear p435); (try clear p6); (try clear p64); (try clear q434); (try clear q435); obtain ⟨kq, x239_76, rfl, HA, HJ76, HO_6, HO_27, HO_31, HB⟩ := hcut
                                          cases kq with
                                          | zero => exact absurd HA.out (by simp [laws_FnPaid.j7])
                                          | succ kj76 =>
                                            have H := HA.out; clear HA; simp only [laws_FnPaid.j7] at H; by_cases c81 : x239_76 = true
                                            · subst c81; (have H1 : (some false) = some r := z41_); clear H; have H := H1; clear H1
                                              as_aux_lemma =>
                                                obtain rfl := Option.some.inj H; cases ht
                                            · replace c81 := Bool.eq_false_iff.mpr c81; subst c81; (have H1 : (laws_FnPaid.l2 kj76 t379 t380 x27_5 t429 x33_7 0) = some r := z18_); clear H; have H := H1; clear H1; have H' := Aside0.mk H; clear H; go_wp2; (repeat (go_quiet (fail); try go_wp2)); go_loopg [34] kj76 (fun kq v34 w' => ∃ (x34_9 : Int), v34 = .int .i64 x34_9 ∧ Aside0 (laws_FnPaid.l2 kq t379 t380 x27_5 t429 x33_7 x34_9 = some r) ∧ Aside0 (kq ≤ kj76) ∧ Aside0 (Kd.R k65 65 w' w.heap.size (fun _ => True) (.slice Ao15 t380.length co15) t380) ∧ Aside0 (Kd.R (Kd.int .i64) 2 w' w.heap.size (fun k_ => some k_ ≠ ((.slice Ao78 t429.length co78) : Value).ownBlock) (.slice Ao67 x27_5.length co67) x27_5) ∧ Aside0 (Kd.R (Kd.int .i64) 2 w' w.heap.size (fun k_ => some k_ ≠ ((.slice Ao67 x27_5.length co67) : Value).ownBlock) (.slice Ao78 t429.length co78) t429) ∧ Aside0 (Below w.heap.size w w'))
                                              case atStart => exact ⟨(0), z5_, H', ⟨Nat.le_refl _⟩, ⟨z6_⟩, ⟨z11_⟩, ⟨z30_⟩, ⟨z0_⟩⟩
                                              case round =>
                                                clear H'; (try clear c1); (try clear c2); (try clear p2); (try clear c3); (try clear c4); (try clear p4); (try clear q4); (try clear hx4); (try clear c5); (try clear c6); (try clear p6); (try clear c7); (try clear c8); (try clear c14); (try clear c19); (try clear c19b0); (try clear c19b1); (try clear c20); (try clear c20b0); (try clear c20b1); (try clear c22); (try clear c27); (try clear c29); (try clear c29b0); (try clear c29b1); (try clear c31); (try clear c31b0); (try clear c31b1); (try clear c32); (try clear c32b0); (try clear c32b1); (try clear c40); (try clear c40b0); (try clear c40b1); (try clear p43); (try clear q43); (try clear hx43); (try clear c44); (try clear c46); (try clear c46b0); (try clear c46b1); (try clear c49); (try clear c49b0); (try clear c49b1); (try clear c50); (try clear c50b0); (try clear c50b1); (try clear c52); (try clear c60); (try clear c60b0); (try clear c62); (try clear p64); (try clear c70); (try clear c70b0); (try clear c70b1); (try clear c71); (try clear c71b0); (try clear c71b1); (try clear c75); (try clear c76); (try clear c76b0); (try clear c79); (try clear c79b0); (try clear c80); (try clear c80b0); (try clear c81); (try clear hx434_0); (try clear hx435_0); (try clear p2); (try clear p4); (try clear p43); (try clear p434); (try clear p435); (try clear p6); (try clear p64); (try clear q4); (try clear q43); (try clear q434); (try clear q435); obtain ⟨x34_9, rfl, HA, HK9, HO_6, HO_27, HO_31, HB⟩ := hrel
                                                cases gk with
                                                | zero => exact absurd HA.out (by simp [laws_FnPaid.l2])
                                                | succ k9 =>
                                                  have H := HA.out; clear HA; simp only [laws_FnPaid.l2] at H; by_cases c82 : x34_9 < x33_7
                                                  · rw [if_pos c82] at H; have c82b0 : decide (x34_9 < x33_7) = true := decide_eq_true c82; clear c82; by_cases c83 : 0 ≤ x34_9
                                                    · rw [if_pos c83] at H; have c83b0 : decide (0 ≤ x34_9) = true := decide_eq_true c83; clear c83; by_cases c84 : x34_9 < (t429.length : Int)
                                                      · rw [if_pos c84] at H; have c84b0 : decide (x34_9 < (t429.length : Int)) = true := decide_eq_true c84; clear c84; by_cases c85 : 0 ≤ x33_7
                                                        · rw [if_pos c85] at H; have c85b0 : decide (0 ≤ x33_7) = true := decide_eq_true c85; clear c85; by_cases c86 : x33_7 < (t429.length : Int)
                                                          · rw [if_pos c86] at H; have c86b0 : decide (x33_7 < (t429.length : Int)) = true := decide_eq_true c86; clear c86; by_cases c87 : (rd t429 x34_9) = (rd t429 x33_7)
                                                            · rw [if_pos c87] at H; have c87b0 : ((rd t429 x34_9) == (rd t429 x33_7)) = true := beq_iff_eq.mpr c87; have c87b1 : ((rd t429 x34_9) != (rd t429 x33_7)) = false := bne_eq_false_iff_eq.mpr c87; clear c87
                                                              as_aux_lemma =>
                                                                obtain rfl := Option.some.inj H; cases ht
                                                            · rw [if_neg c87] at H; have c87b0 : ((rd t429 x34_9) == (rd t429 x33_7)) = false := beq_eq_false_iff_ne.mpr c87; have c87b1 : ((rd t429 x34_9) != (rd t429 x33_7)) = true := bne_iff_ne.mpr c87
                                                              as_aux_lemma =>
                                                                have H' := Aside0.mk H; clear H; have p436 : 0 ≤ (x34_9 : Int) := of_decide_eq_true z1_; have q436 : x34_9 < (t429.length : Int) := of_decide_eq_true z1_; obtain ⟨ad436, e436, hx436_0⟩ := Kd.at_int (Kd.R_reads' HO_31.out).2.2 x34_9 p436 q436; cases e436; replace p436 := eq_true p436; replace q436 := eq_true q436; have p437 : 0 ≤ (x33_7 : Int) := of_decide_eq_true z1_; have q437 : x33_7 < (t429.length : Int) := of_decide_eq_true z1_; obtain ⟨ad437, e437, hx437_0⟩ := Kd.at_int (Kd.R_reads' HO_31.out).2.2 x33_7 p437 q437; obtain rfl : ad436 = ad437 := (by injection e437); replace p437 := eq_true p437; replace q437 := eq_true q437; go_wp2; (repeat (go_quiet (fail); try go_wp2)); go_roundg k9
                                                                case measure => have := HJ12.out; have := HJ27.out; have := HJ36.out; have := HJ44.out; have := HK5.out; have := HJ65.out; have := HK7.out; have := HJ76.out; have := HK9.out; omega
                                                                case rel => exact ⟨(wrap64 (x34_9 + 1)), z5_, H', ⟨by have := HJ12.out; have := HJ27.out; have := HJ36.out; have := HJ44.out; have := HK5.out; have := HJ65.out; have := HK7.out; have := HJ76.out; have := HK9.out; omega⟩, ⟨z6_⟩, ⟨z11_⟩, ⟨z30_⟩, ⟨z0_⟩⟩
                                                          · rw [if_neg c86] at H; exact absurd H (by simp)
                                                        · rw [if_neg c85] at H; exact absurd H (by simp)
                                                      · rw [if_neg c84] at H; exact absurd H (by simp)
                                                    · rw [if_neg c83] at H; exact absurd H (by simp)
                                                  · rw [if_neg c82] at H; have c82b0 : decide (x34_9 < x33_7) = false := decide_eq_false c82; clear c82
                                                    as_aux_lemma =>
                                                      have H' := Aside0.mk H; clear H; go_wp2; (repeat (go_quiet (fail); try go_wp2)); go_roundg k9
                                                      case measure => have := HJ12.out; have := HJ27.out; have := HJ36.out; have := HJ44.out; have := HK5.out; have := HJ65.out; have := HK7.out; have := HJ76.out; have := HK9.out; omega
                                                      case rel => exact ⟨(wrap64 (x33_7 + 1)), z5_, H', ⟨by have := HJ12.out; have := HJ27.out; have := HJ36.out; have := HJ44.out; have := HK5.out; have := HJ65.out; have := HK7.out; have := HJ76.out; have := HK9.out; omega⟩, ⟨z6_⟩, ⟨z11_⟩, ⟨z30_⟩, ⟨z0_⟩⟩
                                      · rw [if_neg c76] at H; have c76b0 : decide (x33_7 < (t429.length : Int)) = false := decide_eq_false c76; clear c76; have H' := Aside0.mk H; clear H; obtain ⟨Ao88, co88, eo88⟩ := Kd.R_slice HO_31.out; subst eo88; go_wp2; (repeat (go_quiet (fail); try go_wp2)); go_loopg [35] k7 (fun kq v35 w' => ∃ (x35_8 : Int), v35 = .int .i64 x35_8 ∧ Aside0 (laws_FnPaid.l3 kq t379 t380 x27_5 t429 x35_8 = some r) ∧ Aside0 (kq ≤ k7) ∧ Aside0 (Kd.R k65 65 w' w.heap.size (fun _ => True) (.slice Ao15 t380.length co15) t380) ∧ Aside0 (Kd.R (Kd.int .i64) 2 w' w.heap.size (fun k_ => some k_ ≠ ((.slice Ao88 t429.length co88) : Value).ownBlock) (.slice Ao67 x27_5.length co67) x27_5) ∧ Aside0 (Kd.R (Kd.int .i64) 2 w' w.heap.size (fun k_ => some k_ ≠ ((.slice Ao67 x27_5.length co67) : Value).ownBlock) (.slice Ao88 t429.length co88) t429) ∧ Aside0 (Below w.heap.size w w'))
                                        case atStart => exact ⟨(0), z5_, H', ⟨Nat.le_refl _⟩, ⟨z6_⟩, ⟨z11_⟩, ⟨z30_⟩, ⟨z0_⟩⟩
                                        case round =>
                                          clear H'; (try clear c1); (try clear c2); (try clear p2); (try clear c3); (try clear c4); (try clear p4); (try clear q4); (try clear hx4); (try clear c5); (try clear c6); (try clear p6); (try clear c7); (try clear c8); (try clear c14); (try clear c19); (try clear c19b0); (try clear c19b1); (try clear c20); (try clear c20b0); (try clear c20b1); (try clear c22); (try clear c27); (try clear c29); (try clear c29b0); (try clear c29b1); (try clear c31); (try clear c31b0); (try clear c31b1); (try clear c32); (try clear c32b0); (try clear c32b1); (try clear c40); (try clear c40b0); (try clear c40b1); (try clear p43); (try clear q43); (try clear hx43); (try clear c44); (try clear c46); (try clear c46b0); (try clear c46b1); (try clear c49); (try clear c49b0); (try clear c49b1); (try clear c50); (try clear c50b0); (try clear c50b1); (try clear c52); (try clear c60); (try clear c60b0); (try clear c62); (try clear p64); (try clear c70); (try clear c70b0); (try clear c70b1); (try clear c71); (try clear c71b0); (try clear c71b1); (try clear c75); (try clear c76); (try clear c76b0); (try clear c79); (try clear c79b0); (try clear c80); (try clear c80b0); (try clear c81); (try clear c82); (try clear c82b0); (try clear c83); (try clear c83b0); (try clear c84); (try clear c84b0); (try clear c85); (try clear c85b0); (try clear c86); (try clear c86b0); (try clear c87); (try clear c87b0); (try clear c87b1); (try clear hx434_0); (try clear hx435_0); (try clear hx436_0); (try clear hx437_0); (try clear p2); (try clear p4); (try clear p43); (try clear p434); (try clear p435); (try clear p436); (try clear p437); (try clear p6); (try clear p64); (try clear q4); (try clear q43); (try clear q434); (try clear q435); (try clear q436); (try clear q437); obtain ⟨x35_8, rfl, HA, HK8, HO_6, HO_27, HO_31, HB⟩ := hrel
                                          cases gk with
                                          | zero => exact absurd HA.out (by simp [laws_FnPaid.l3])
                                          | succ k8 =>
                                            have H := HA.out; clear HA; simp only [laws_FnPaid.l3] at H; by_cases c89 : x35_8 < t379
                                            · rw [if_pos c89] at H; have c89b0 : decide (x35_8 < t379) = true := decide_eq_true c89; clear c89; have H' := Aside0.mk H; clear H; go_wp2; (repeat (go_quiet (fail); try go_wp2)); go_loopg [36, 37] k8 (fun kq v36 v37 w' => ∃ (x36_9 : Int) (x37_9 : Int), v36 = .int .i64 x36_9 ∧ v37 = .int .i64 x37_9 ∧ Aside0 (laws_FnPaid.l4 kq t379 t380 x27_5 t429 x35_8 x36_9 x37_9 = some r) ∧ Aside0 (kq ≤ k8) ∧ Aside0 (Kd.R k65 65 w' w.heap.size (fun _ => True) (.slice Ao15 t380.length co15) t380) ∧ Aside0 (Kd.R (Kd.int .i64) 2 w' w.heap.size (fun k_ => some k_ ≠ ((.slice Ao88 t429.length co88) : Value).ownBlock) (.slice Ao67 x27_5.length co67) x27_5) ∧ Aside0 (Kd.R (Kd.int .i64) 2 w' w.heap.size (fun k_ => some k_ ≠ ((.slice Ao67 x27_5.length co67) : Value).ownBlock) (.slice Ao88 t429.length co88) t429) ∧ Aside0 (Below w.heap.size w w'))
                                              case atStart => exact ⟨(0), (0), z5_, z5_, H', ⟨Nat.le_refl _⟩, ⟨z6_⟩, ⟨z11_⟩, ⟨z30_⟩, ⟨z0_⟩⟩
                                              case round =>
                                                clear H'; (try clear c1); (try clear c2); (try clear p2); (try clear c3); (try clear c4); (try clear p4); (try clear q4); (try clear hx4); (try clear c5); (try clear c6); (try clear p6); (try clear c7); (try clear c8); (try clear c14); (try clear c19); (try clear c19b0); (try clear c19b1); (try clear c20); (try clear c20b0); (try clear c20b1); (try clear c22); (try clear c27); (try clear c29); (try clear c29b0); (try clear c29b1); (try clear c31); (try clear c31b0); (try clear c31b1); (try clear c32); (try clear c32b0); (try clear c32b1); (try clear c40); (try clear c40b0); (try clear c40b1); (try clear p43); (try clear q43); (try clear hx43); (try clear c44); (try clear c46); (try clear c46b0); (try clear c46b1); (try clear c49); (try clear c49b0); (try clear c49b1); (try clear c50); (try clear c50b0); (try clear c50b1); (try clear c52); (try clear c60); (try clear c60b0); (try clear c62); (try clear p64); (try clear c70); (try clear c70b0); (try clear c70b1); (try clear c71); (try clear c71b0); (try clear c71b1); (try clear c75); (try clear c76); (try clear c76b0); (try clear c79); (try clear c79b0); (try clear c80); (try clear c80b0); (try clear c81); (try clear c82); (try clear c82b0); (try clear c83); (try clear c83b0); (try clear c84); (try clear c84b0); (try clear c85); (try clear c85b0); (try clear c86); (try clear c86b0); (try clear c87); (try clear c87b0); (try clear c87b1); (try clear c89); (try clear c89b0); (try clear hx434_0); (try clear hx435_0); (try clear hx436_0); (try clear hx437_0); (try clear p2); (try clear p4); (try clear p43); (try clear p434); (try clear p435); (try clear p436); (try clear p437); (try clear p6); (try clear p64); (try clear q4); (try clear q43); (try clear q434); (try clear q435); (try clear q436); (try clear q437); obtain ⟨x36_9, x37_9, rfl, rfl, HA, HK9, HO_6, HO_27, HO_31, HB⟩ := hrel
                                                cases gk with
                                                | zero => exact absurd HA.out (by simp [laws_FnPaid.l4])
                                                | succ k9 =>
                                                  have H := HA.out; clear HA; simp only [laws_FnPaid.l4] at H; by_cases c90 : x37_9 < t379
                                                  · rw [if_pos c90] at H; have c90b0 : decide (x37_9 < t379) = true := decide_eq_true c90; clear c90; replace H := Option.bind_eq_some_iff.mp H; obtain ⟨⟨t438, t439⟩, A910, H⟩ := H; replace H : (if t439 = 0 then (laws_FnPaid.l4 k9 t379 t380 x27_5 t429 x35_8 (wrap64 (x36_9 + t438)) (wrap64 (x37_9 + 1))) else (some false)) = some r := H; have A91 := Aside0.mk A910; clear A910; by_cases c92 : t439 = 0
                                                    · rw [if_pos c92] at H; have c92b0 : (t439 == 0) = true := beq_iff_eq.mpr c92; have c92b1 : (t439 != 0) = false := bne_eq_false_iff_eq.mpr c92; clear c92
                                                      as_aux_lemma =>
                                                        have H' := Aside0.mk H; clear H; go_wp2_with (first | (go_at_call 16; (with_reducible refine (spec_OwedBetween.calls k9 t379 _ _ t380 x35_8 x37_9 t438 t439 _ ?side1 ?side2 A91.out).mono ?_); (case side1 => repeat (first | exact (Kd.R_reads' HO_6.out).2.2 | (with_reducible refine Kd.C_alloc ?_ _) | (with_reducible refine Kd.C_drewN ?_ _) | (with_reducible refine Kd.C_drew ?_))); (case side2 => exact (Kd.R_reads' HO_6.out).2.1); rintro e w93 ⟨rfl, hb⟩; have n0_ := Aside0.mk (Kd.R_below z6_ hb); have n1_ := Aside0.mk (Kd.R_below z11_ hb); have n2_ := Aside0.mk (Kd.R_below z30_ hb); have n3_ := Aside0.mk (below_step z0_ hb); clear HO_6; clear HO_27; clear HO_31; clear HB; have HO_6 := n0_; have HO_27 := n1_; have HO_31 := n2_; have HB := n3_; clear n0_ n1_ n2_ n3_; (try clear hb); (try clear hb2); (try clear hk); (try clear hi))); (repeat (go_quiet (first | (go_at_call 16; (with_reducible refine (spec_OwedBetween.calls k9 t379 _ _ t380 x35_8 x37_9 t438 t439 _ ?side1 ?side2 A91.out).mono ?_); (case side1 => repeat (first | exact (Kd.R_reads' HO_6.out).2.2 | (with_reducible refine Kd.C_alloc ?_ _) | (with_reducible refine Kd.C_drewN ?_ _) | (with_reducible refine Kd.C_drew ?_))); (case side2 => exact (Kd.R_reads' HO_6.out).2.1); rintro e w93 ⟨rfl, hb⟩; have n0_ := Aside0.mk (Kd.R_below z6_ hb); have n1_ := Aside0.mk (Kd.R_below z11_ hb); have n2_ := Aside0.mk (Kd.R_below z30_ hb); have n3_ := Aside0.mk (below_step z0_ hb); clear HO_6; clear HO_27; clear HO_31; clear HB; have HO_6 := n0_; have HO_27 := n1_; have HO_31 := n2_; have HB := n3_; clear n0_ n1_ n2_ n3_; (try clear hb); (try clear hb2); (try clear hk); (try clear hi))); try go_wp2_with (first | (go_at_call 16; (with_reducible refine (spec_OwedBetween.calls k9 t379 _ _ t380 x35_8 x37_9 t438 t439 _ ?side1 ?side2 A91.out).mono ?_); (case side1 => repeat (first | exact (Kd.R_reads' HO_6.out).2.2 | (with_reducible refine Kd.C_alloc ?_ _) | (with_reducible refine Kd.C_drewN ?_ _) | (with_reducible refine Kd.C_drew ?_))); (case side2 => exact (Kd.R_reads' HO_6.out).2.1); rintro e w93 ⟨rfl, hb⟩; have n0_ := Aside0.mk (Kd.R_below z6_ hb); have n1_ := Aside0.mk (Kd.R_below z11_ hb); have n2_ := Aside0.mk (Kd.R_below z30_ hb); have n3_ := Aside0.mk (below_step z0_ hb); clear HO_6; clear HO_27; clear HO_31; clear HB; have HO_6 := n0_; have HO_27 := n1_; have HO_31 := n2_; have HB := n3_; clear n0_ n1_ n2_ n3_; (try clear hb); (try clear hb2); (try clear hk); (try clear hi))))); go_roundg k9
                                                        case measure => have := HJ12.out; have := HJ27.out; have := HJ36.out; have := HJ44.out; have := HK5.out; have := HJ65.out; have := HK7.out; have := HK8.out; have := HK9.out; omega
                                                        case rel => exact ⟨(wrap64 (x36_9 + t438)), (wrap64 (x37_9 + 1)), z5_, z5_, H', ⟨z67_⟩, ⟨z6_⟩, ⟨z11_⟩, ⟨z30_⟩, ⟨z0_⟩⟩
                                                    · rw [if_neg c92] at H; have c92b0 : (t439 == 0) = false := beq_eq_false_iff_ne.mpr c92; have c92b1 : (t439 != 0) = true := bne_iff_ne.mpr c92
                                                      as_aux_lemma =>
                                                        obtain rfl := Option.some.inj H; cases ht
                                                  · rw [if_neg c90] at H; have c90b0 : decide (x37_9 < t379) = false := decide_eq_false c90; clear c90; by_cases c94 : 0 ≤ x35_8
                                                    · rw [if_pos c94] at H; have c94b0 : decide (0 ≤ x35_8) = true := decide_eq_true c94; clear c94; by_cases c95 : x35_8 < (x27_5.length : Int)
                                                      · rw [if_pos c95] at H; have c95b0 : decide (x35_8 < (x27_5.length : Int)) = true := decide_eq_true c95; clear c95; by_cases c96 : (rd x27_5 x35_8) ≥ x36_9
                                                        · rw [if_pos c96] at H; have c96b0 : decide (x36_9 ≤ (rd x27_5 x35_8)) = true := decide_eq_true c96; clear c96; replace H := Option.bind_eq_some_iff.mp H; obtain ⟨t441, A970, H⟩ := H; replace H : (if t441 = true then (laws_FnPaid.l3 k9 t379 t380 x27_5 t429 (wrap64 (x35_8 + 1))) else (some false)) = some r := H; have A97 := Aside0.mk A970; clear A970; by_cases c98 : t441 = true
                                                          · subst c98; (have H1 : (laws_FnPaid.l3 k9 t379 t380 x27_5 t429 (wrap64 (x35_8 + 1))) = some r := z41_); clear H; have H := H1; clear H1
                                                            as_aux_lemma =>
                                                              have H' := Aside0.mk H; clear H; have p440 : 0 ≤ (x35_8 : Int) := of_decide_eq_true z1_; have q440 : x35_8 < (x27_5.length : Int) := of_decide_eq_true z1_; obtain ⟨ad440, e440, hx440_0⟩ := Kd.at_int (Kd.R_reads' HO_27.out).2.2 x35_8 p440 q440; cases e440; replace p440 := eq_true p440; replace q440 := eq_true q440; go_wp2_with (first | (go_at_call 52; (with_reducible refine (spec_A2Has.calls k9 _ _ t429 x35_8 true _ ?side1 ?side2 A97.out).mono ?_); (case side1 => repeat (first | exact (Kd.R_reads' HO_31.out).2.2 | (with_reducible refine Kd.C_alloc ?_ _) | (with_reducible refine Kd.C_drewN ?_ _) | (with_reducible refine Kd.C_drew ?_))); (case side2 => exact (Kd.R_reads' HO_31.out).2.1); rintro e w' ⟨rfl, ⟨nd, rfl⟩⟩; (try first | exact ⟨rfl, _, World.drewN_drewN _ _ _⟩ | exact ⟨rfl, _, Eq.trans (World.drewN_drewN _ _ _) (congrArg (World.drewN _) (Nat.add_assoc _ _ _))⟩))); (repeat (go_quiet (first | (go_at_call 52; (with_reducible refine (spec_A2Has.calls k9 _ _ t429 x35_8 true _ ?side1 ?side2 A97.out).mono ?_); (case side1 => repeat (first | exact (Kd.R_reads' HO_31.out).2.2 | (with_reducible refine Kd.C_alloc ?_ _) | (with_reducible refine Kd.C_drewN ?_ _) | (with_reducible refine Kd.C_drew ?_))); (case side2 => exact (Kd.R_reads' HO_31.out).2.1); rintro e w' ⟨rfl, ⟨nd, rfl⟩⟩; (try first | exact ⟨rfl, _, World.drewN_drewN _ _ _⟩ | exact ⟨rfl, _, Eq.trans (World.drewN_drewN _ _ _) (congrArg (World.drewN _) (Nat.add_assoc _ _ _))⟩))); try go_wp2_with (first | (go_at_call 52; (with_reducible refine (spec_A2Has.calls k9 _ _ t429 x35_8 true _ ?side1 ?side2 A97.out).mono ?_); (case side1 => repeat (first | exact (Kd.R_reads' HO_31.out).2.2 | (with_reducible refine Kd.C_alloc ?_ _) | (with_reducible refine Kd.C_drewN ?_ _) | (with_reducible refine Kd.C_drew ?_))); (case side2 => exact (Kd.R_reads' HO_31.out).2.1); rintro e w' ⟨rfl, ⟨nd, rfl⟩⟩; (try first | exact ⟨rfl, _, World.drewN_drewN _ _ _⟩ | exact ⟨rfl, _, Eq.trans (World.drewN_drewN _ _ _) (congrArg (World.drewN _) (Nat.add_assoc _ _ _))⟩))))); go_roundg k9
                                                              case measure => have := HJ12.out; have := HJ27.out; have := HJ36.out; have := HJ44.out; have := HK5.out; have := HJ65.out; have := HK7.out; have := HK8.out; have := HK9.out; omega
                                                              case rel => exact ⟨(wrap64 (x35_8 + 1)), z5_, H', ⟨z67_⟩, ⟨z6_⟩, ⟨z11_⟩, ⟨z30_⟩, ⟨z0_⟩⟩
                                                          · replace c98 := Bool.eq_false_iff.mpr c98; subst c98; (have H1 : (some false) = some r := z18_); clear H; have H := H1; clear H1
                                                            as_aux_lemma =>
                                                              obtain rfl := Option.some.inj H; cases ht
                                                        · rw [if_neg c96] at H; have c96b0 : decide (x36_9 ≤ (rd x27_5 x35_8)) = false := decide_eq_false c96; clear c96
                                                          as_aux_lemma =>
                                                            have H' := Aside0.mk H; clear H; have p440 : 0 ≤ (x35_8 : Int) := of_decide_eq_true z1_; have q440 : x35_8 < (x27_5.length : Int) := of_decide_eq_true z1_; obtain ⟨ad440, e440, hx440_0⟩ := Kd.at_int (Kd.R_reads' HO_27.out).2.2 x35_8 p440 q440; cases e440; replace p440 := eq_true p440; replace q440 := eq_true q440; go_wp2; (repeat (go_quiet (fail); try go_wp2)); go_roundg k9
                                                            case measure => have := HJ12.out; have := HJ27.out; have := HJ36.out; have := HJ44.out; have := HK5.out; have := HJ65.out; have := HK7.out; have := HK8.out; have := HK9.out; omega
                                                            case rel => exact ⟨(wrap64 (x35_8 + 1)), z5_, H', ⟨z67_⟩, ⟨z6_⟩, ⟨z11_⟩, ⟨z30_⟩, ⟨z0_⟩⟩
                                                      · rw [if_neg c95] at H; exact absurd H (by simp)
                                                    · rw [if_neg c94] at H; exact absurd H (by simp)
                                            · rw [if_neg c89] at H; have c89b0 : decide (x35_8 < t379) = false := decide_eq_false c89; clear c89
                                              as_aux_lemma =>
                                                obtain rfl := Option.some.inj H; go_wp2; (repeat (go_quiet (fail); try go_wp2)); go_ret; exact ⟨z3_, z0_⟩

end Go.Proofs.Ytofcgkcpkngocaa.MPaid
