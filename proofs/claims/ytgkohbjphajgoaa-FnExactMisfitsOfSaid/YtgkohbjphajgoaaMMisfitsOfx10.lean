-- by a program of this session, for this claim
import Derived.Test.YtgkohbjphajgoaaMMisfitsOfx0
import Derived.Test.YtgkohbjphajgoaaMMisfitsOfx2
import Derived.Test.YtgkohbjphajgoaaMMisfitsOfx3
import Derived.Test.YtgkohbjphajgoaaMMisfitsOfx5
import Derived.Test.YtgkohbjphajgoaaMMisfitsOfx8
import Derived.Test.YtgkohbjphajgoaaMMisfitsOfx9
namespace Go.Proofs.Ytgkohbjphajgoaa.MMisfitsOf
open Go.RowKit Go.Proofs.YtgkohbjphajgoaaW.PrintWords Go.Proofs.YtgkohbjphajgoaaW.PrintLast Go.Proofs.YtgkohbjphajgoaaW.PrintMore
attribute [local go_sem] max2_int min2_int max_two min_two max_three min_three max_four min_four   -- for this text's walks alone
set_option linter.unusedVariables false
set_option linter.unusedSimpArgs false

/-! ### laws_FnExactMisfitsOf: function 14 -/
mutual
def laws_FnExactMisfitsOf.j0 : Nat → List Int → List Int → Int → List Int → List Int → Int → Bool → Bool → List (S90) → Vector Int 16 → Bool → List (S90) → Vector Int 16 → Bool → List (S77) → Vector Int 16 → Bool → List (S77) → Vector Int 16 → Option (Bool)
  | 0, _, _, _, _, _, _, _, _, _, _, _, _, _, _, _, _, _, _, _ => none
  | k + 1, x6, x7, x8, x11, x12, x13, x64, x246000, x246001, x246002, x247000, x247001, x247002, x272000, x272001, x272002, x278000, x278001, x278002 => if x64 = true then (some false) else ((laws_toHalf.f k x246000 x246001 x246002).bind fun bt287 => ((laws_eqHalf.f k x272000 x272001 x272002 bt287.1 bt287.2.1 bt287.2.2).bind fun t292 => (if t292 = true then ((laws_toHalf.f k x247000 x247001 x247002).bind fun bt293 => ((laws_eqHalf.f k x278000 x278001 x278002 bt293.1 bt293.2.1 bt293.2.2).bind fun t298 => (if t298 = true then ((laws_markHalf.f k x272000 x272001 x272002 1).bind fun bt299 => ((laws_markHalf.f k x278000 x278001 x278002 bt299.1).bind fun bt301 => (if bt301.1 < 0 then (laws_FnExactMisfitsOf.j1 k x6 x7 x8 x11 x12 true x246000 x246001 x246002 x247000 x247001 x247002) else ((laws_eqInt64S.f k x11 x6).bind fun t303 => (if t303 = true then ((laws_eqInt64S.f k x12 x7).bind fun t304 => (if t304 = true then (laws_FnExactMisfitsOf.j1 k x6 x7 x8 x11 x12 (x13 != x8) x246000 x246001 x246002 x247000 x247001 x247002) else (laws_FnExactMisfitsOf.j1 k x6 x7 x8 x11 x12 true x246000 x246001 x246002 x247000 x247001 x247002))) else (laws_FnExactMisfitsOf.j1 k x6 x7 x8 x11 x12 true x246000 x246001 x246002 x247000 x247001 x247002)))))) else (some false)))) else (some false))))
def laws_FnExactMisfitsOf.j1 : Nat → List Int → List Int → Int → List Int → List Int → Bool → Bool → List (S90) → Vector Int 16 → Bool → List (S90) → Vector Int 16 → Option (Bool)
  | 0, _, _, _, _, _, _, _, _, _, _, _, _ => none
  | k + 1, x6, x7, x8, x11, x12, x99, x246000, x246001, x246002, x247000, x247001, x247002 => if x99 = true then (some false) else ((laws_markInt64S.f k x11 1).bind fun bt305 => ((laws_markInt64S.f k x12 bt305.1).bind fun bt307 => ((laws_heldInt64S.f k bt305.2 1).bind fun t309 => (if t309 < 0 then (some false) else ((laws_heldInt64S.f k bt307.2 t309).bind fun t310 => (if t310 < 0 then (some false) else (if t310 = bt307.1 then ((laws_toHalf.f k x246000 x246001 x246002).bind fun bt311 => ((laws_toHalf.f k x247000 x247001 x247002).bind fun bt316 => ((impl_MisfitsOf.f k bt311.1 bt311.2.1 bt311.2.2 bt316.1 bt316.2.1 bt316.2.2).bind fun bt321 => ((laws_eqInt64S.f k bt321.1 x6).bind fun t328 => (if t328 = true then ((laws_eqInt64S.f k bt321.2.1 x7).bind fun t329 => (if t329 = true then (laws_FnExactMisfitsOf.j2 k bt305.2 bt307.2 bt307.1 (bt321.2.2 != x8)) else (laws_FnExactMisfitsOf.j2 k bt305.2 bt307.2 bt307.1 true))) else (laws_FnExactMisfitsOf.j2 k bt305.2 bt307.2 bt307.1 true)))))) else (some false))))))))
def laws_FnExactMisfitsOf.j2 : Nat → List Int → List Int → Int → Bool → Option (Bool)
  | 0, _, _, _, _ => none
  | k + 1, x11, x12, x15, x142 => if x142 = true then (some false) else ((laws_heldInt64S.f k x11 1).bind fun t330 => (if t330 < 0 then (some false) else ((laws_heldInt64S.f k x12 t330).bind fun t331 => (if t331 < 0 then (some false) else (if t331 = x15 then (some true) else (some false))))))
end
def laws_FnExactMisfitsOf.f (k : Nat) (a0_0 : Bool) (l0_1 : List (S90)) (a0_2 : Vector Int 16) (a1_0 : Bool) (l1_1 : List (S90)) (a1_2 : Vector Int 16) : Option (Bool) := (laws_szHalf.f a0_0 l0_1 a0_2 1048576).bind fun t247 => (if t247 < 0 then (some true) else ((laws_szHalf.f a1_0 l1_1 a1_2 t247).bind fun t248 => (if t248 < 0 then (some true) else ((laws_toHalf.f k a0_0 l0_1 a0_2).bind fun bt249 => ((laws_toHalf.f k a1_0 l1_1 a1_2).bind fun bt254 => ((spec_MisfitsOf.f k bt249.1 bt249.2.1 bt249.2.2 bt254.1 bt254.2.1 bt254.2.2).bind fun bt259 => ((laws_toHalf.f k a0_0 l0_1 a0_2).bind fun bt266 => ((laws_toHalf.f k a1_0 l1_1 a1_2).bind fun bt272 => ((impl_MisfitsOf.f k bt266.1 bt266.2.1 bt266.2.2 bt272.1 bt272.2.1 bt272.2.2).bind fun bt278 => ((laws_eqInt64S.f k bt278.1 bt259.1).bind fun t285 => (if t285 = true then ((laws_eqInt64S.f k bt278.2.1 bt259.2.1).bind fun t286 => (if t286 = true then (laws_FnExactMisfitsOf.j0 k bt259.1 bt259.2.1 bt259.2.2 bt278.1 bt278.2.1 bt278.2.2 (bt278.2.2 != bt259.2.2) a0_0 l0_1 a0_2 a1_0 l1_1 a1_2 bt266.1 bt266.2.1 bt266.2.2 bt272.1 bt272.2.1 bt272.2.2) else (laws_FnExactMisfitsOf.j0 k bt259.1 bt259.2.1 bt259.2.2 bt278.1 bt278.2.1 bt278.2.2 true a0_0 l0_1 a0_2 a1_0 l1_1 a1_2 bt266.1 bt266.2.1 bt266.2.2 bt272.1 bt272.2.1 bt272.2.2))) else (laws_FnExactMisfitsOf.j0 k bt259.1 bt259.2.1 bt259.2.2 bt278.1 bt278.2.1 bt278.2.2 true a0_0 l0_1 a0_2 a1_0 l1_1 a1_2 bt266.1 bt266.2.1 bt266.2.2 bt272.1 bt272.2.1 bt272.2.2))))))))))))
theorem laws_FnExactMisfitsOf.mono_l : ∀ k, (∀ y0 y1 y2 y3 y4 y5 y6 y7 y8 y9 y10 y11 y12 y13 y14 y15 y16 y17 y18, LeO (laws_FnExactMisfitsOf.j0 k y0 y1 y2 y3 y4 y5 y6 y7 y8 y9 y10 y11 y12 y13 y14 y15 y16 y17 y18) (laws_FnExactMisfitsOf.j0 (k + 1) y0 y1 y2 y3 y4 y5 y6 y7 y8 y9 y10 y11 y12 y13 y14 y15 y16 y17 y18)) ∧ (∀ y0 y1 y2 y3 y4 y5 y6 y7 y8 y9 y10 y11, LeO (laws_FnExactMisfitsOf.j1 k y0 y1 y2 y3 y4 y5 y6 y7 y8 y9 y10 y11) (laws_FnExactMisfitsOf.j1 (k + 1) y0 y1 y2 y3 y4 y5 y6 y7 y8 y9 y10 y11)) ∧ (∀ y0 y1 y2 y3, LeO (laws_FnExactMisfitsOf.j2 k y0 y1 y2 y3) (laws_FnExactMisfitsOf.j2 (k + 1) y0 y1 y2 y3))
  | 0 => ⟨fun _ _ _ _ _ _ _ _ _ _ _ _ _ _ _ _ _ _ _ r h => by simp [laws_FnExactMisfitsOf.j0] at h, fun _ _ _ _ _ _ _ _ _ _ _ _ r h => by simp [laws_FnExactMisfitsOf.j1] at h, fun _ _ _ _ r h => by simp [laws_FnExactMisfitsOf.j2] at h⟩
  | k + 1 => by
    obtain ⟨ih0, ih1, ih2⟩ := laws_FnExactMisfitsOf.mono_l k
    refine ⟨?_, ?_, ?_⟩
    · intro y0 y1 y2 y3 y4 y5 y6 y7 y8 y9 y10 y11 y12 y13 y14 y15 y16 y17 y18
      unfold laws_FnExactMisfitsOf.j0
      repeat' first
      | (with_reducible exact ih0 _ _ _ _ _ _ _ _ _ _ _ _ _ _ _ _ _ _ _)
      | (with_reducible exact ih1 _ _ _ _ _ _ _ _ _ _ _ _)
      | (with_reducible exact ih2 _ _ _ _)
      | (with_reducible exact impl_MisfitsOf.mono _ _ _ _ _ _ _)
      | (with_reducible exact laws_eqHalf.mono _ _ _ _ _ _ _)
      | (with_reducible exact laws_eqInt64S.mono _ _ _)
      | (with_reducible exact laws_heldInt64S.mono _ _ _)
      | (with_reducible exact laws_markHalf.mono _ _ _ _ _)
      | (with_reducible exact laws_markInt64S.mono _ _ _)
      | (with_reducible exact laws_toHalf.mono _ _ _ _)
      | (with_reducible exact spec_MisfitsOf.mono _ _ _ _ _ _ _)
      | (with_reducible exact LeO.refl _)
      | (with_reducible exact LeO.none _)
      | (with_reducible refine LeO.ite ?_ ?_)
      | (with_reducible refine LeO.bind ?_ (fun _ => ?_))
      | exact ih0 _ _ _ _ _ _ _ _ _ _ _ _ _ _ _ _ _ _ _
      | exact ih1 _ _ _ _ _ _ _ _ _ _ _ _
      | exact ih2 _ _ _ _
      | exact impl_MisfitsOf.mono _ _ _ _ _ _ _
      | exact laws_eqHalf.mono _ _ _ _ _ _ _
      | exact laws_eqInt64S.mono _ _ _
      | exact laws_heldInt64S.mono _ _ _
      | exact laws_markHalf.mono _ _ _ _ _
      | exact laws_markInt64S.mono _ _ _
      | exact laws_toHalf.mono _ _ _ _
      | exact spec_MisfitsOf.mono _ _ _ _ _ _ _
      | exact LeO.none _
      | refine LeO.ite ?_ ?_
      | refine LeO.bind ?_ (fun _ => ?_)
    · intro y0 y1 y2 y3 y4 y5 y6 y7 y8 y9 y10 y11
      unfold laws_FnExactMisfitsOf.j1
      repeat' first
      | (with_reducible exact ih0 _ _ _ _ _ _ _ _ _ _ _ _ _ _ _ _ _ _ _)
      | (with_reducible exact ih1 _ _ _ _ _ _ _ _ _ _ _ _)
      | (with_reducible exact ih2 _ _ _ _)
      | (with_reducible exact impl_MisfitsOf.mono _ _ _ _ _ _ _)
      | (with_reducible exact laws_eqHalf.mono _ _ _ _ _ _ _)
      | (with_reducible exact laws_eqInt64S.mono _ _ _)
      | (with_reducible exact laws_heldInt64S.mono _ _ _)
      | (with_reducible exact laws_markHalf.mono _ _ _ _ _)
      | (with_reducible exact laws_markInt64S.mono _ _ _)
      | (with_reducible exact laws_toHalf.mono _ _ _ _)
      | (with_reducible exact spec_MisfitsOf.mono _ _ _ _ _ _ _)
      | (with_reducible exact LeO.refl _)
      | (with_reducible exact LeO.none _)
      | (with_reducible refine LeO.ite ?_ ?_)
      | (with_reducible refine LeO.bind ?_ (fun _ => ?_))
      | exact ih0 _ _ _ _ _ _ _ _ _ _ _ _ _ _ _ _ _ _ _
      | exact ih1 _ _ _ _ _ _ _ _ _ _ _ _
      | exact ih2 _ _ _ _
      | exact impl_MisfitsOf.mono _ _ _ _ _ _ _
      | exact laws_eqHalf.mono _ _ _ _ _ _ _
      | exact laws_eqInt64S.mono _ _ _
      | exact laws_heldInt64S.mono _ _ _
      | exact laws_markHalf.mono _ _ _ _ _
      | exact laws_markInt64S.mono _ _ _
      | exact laws_toHalf.mono _ _ _ _
      | exact spec_MisfitsOf.mono _ _ _ _ _ _ _
      | exact LeO.none _
      | refine LeO.ite ?_ ?_
      | refine LeO.bind ?_ (fun _ => ?_)
    · intro y0 y1 y2 y3
      unfold laws_FnExactMisfitsOf.j2
      repeat' first
      | (with_reducible exact ih0 _ _ _ _ _ _ _ _ _ _ _ _ _ _ _ _ _ _ _)
      | (with_reducible exact ih1 _ _ _ _ _ _ _ _ _ _ _ _)
      | (with_reducible exact ih2 _ _ _ _)
      | (with_reducible exact impl_MisfitsOf.mono _ _ _ _ _ _ _)
      | (with_reducible exact laws_eqHalf.mono _ _ _ _ _ _ _)
      | (with_reducible exact laws_eqInt64S.mono _ _ _)
      | (with_reducible exact laws_heldInt64S.mono _ _ _)
      | (with_reducible exact laws_markHalf.mono _ _ _ _ _)
      | (with_reducible exact laws_markInt64S.mono _ _ _)
      | (with_reducible exact laws_toHalf.mono _ _ _ _)
      | (with_reducible exact spec_MisfitsOf.mono _ _ _ _ _ _ _)
      | (with_reducible exact LeO.refl _)
      | (with_reducible exact LeO.none _)
      | (with_reducible refine LeO.ite ?_ ?_)
      | (with_reducible refine LeO.bind ?_ (fun _ => ?_))
      | exact ih0 _ _ _ _ _ _ _ _ _ _ _ _ _ _ _ _ _ _ _
      | exact ih1 _ _ _ _ _ _ _ _ _ _ _ _
      | exact ih2 _ _ _ _
      | exact impl_MisfitsOf.mono _ _ _ _ _ _ _
      | exact laws_eqHalf.mono _ _ _ _ _ _ _
      | exact laws_eqInt64S.mono _ _ _
      | exact laws_heldInt64S.mono _ _ _
      | exact laws_markHalf.mono _ _ _ _ _
      | exact laws_markInt64S.mono _ _ _
      | exact laws_toHalf.mono _ _ _ _
      | exact spec_MisfitsOf.mono _ _ _ _ _ _ _
      | exact LeO.none _
      | refine LeO.ite ?_ ?_
      | refine LeO.bind ?_ (fun _ => ?_)
theorem laws_FnExactMisfitsOf.mono : ∀ a0 a1 a2 a3 a4 a5 k, LeO (laws_FnExactMisfitsOf.f k a0 a1 a2 a3 a4 a5) (laws_FnExactMisfitsOf.f (k + 1) a0 a1 a2 a3 a4 a5) := by
  intro a0 a1 a2 a3 a4 a5 k
  obtain ⟨ih0, ih1, ih2⟩ := laws_FnExactMisfitsOf.mono_l k
  unfold laws_FnExactMisfitsOf.f
  repeat' first
      | (with_reducible exact ih0 _ _ _ _ _ _ _ _ _ _ _ _ _ _ _ _ _ _ _)
      | (with_reducible exact ih1 _ _ _ _ _ _ _ _ _ _ _ _)
      | (with_reducible exact ih2 _ _ _ _)
      | (with_reducible exact impl_MisfitsOf.mono _ _ _ _ _ _ _)
      | (with_reducible exact laws_eqHalf.mono _ _ _ _ _ _ _)
      | (with_reducible exact laws_eqInt64S.mono _ _ _)
      | (with_reducible exact laws_heldInt64S.mono _ _ _)
      | (with_reducible exact laws_markHalf.mono _ _ _ _ _)
      | (with_reducible exact laws_markInt64S.mono _ _ _)
      | (with_reducible exact laws_toHalf.mono _ _ _ _)
      | (with_reducible exact spec_MisfitsOf.mono _ _ _ _ _ _ _)
      | (with_reducible exact LeO.refl _)
      | (with_reducible exact LeO.none _)
      | (with_reducible refine LeO.ite ?_ ?_)
      | (with_reducible refine LeO.bind ?_ (fun _ => ?_))
      | exact ih0 _ _ _ _ _ _ _ _ _ _ _ _ _ _ _ _ _ _ _
      | exact ih1 _ _ _ _ _ _ _ _ _ _ _ _
      | exact ih2 _ _ _ _
      | exact impl_MisfitsOf.mono _ _ _ _ _ _ _
      | exact laws_eqHalf.mono _ _ _ _ _ _ _
      | exact laws_eqInt64S.mono _ _ _
      | exact laws_heldInt64S.mono _ _ _
      | exact laws_markHalf.mono _ _ _ _ _
      | exact laws_markInt64S.mono _ _ _
      | exact laws_toHalf.mono _ _ _ _
      | exact spec_MisfitsOf.mono _ _ _ _ _ _ _
      | exact LeO.none _
      | refine LeO.ite ?_ ?_
      | refine LeO.bind ?_ (fun _ => ?_)
def laws_FnExactMisfitsOf.T8 : Bool × List (List Nat × List Nat) := (true, [([], []), ([0], [0]), ([], []), ([2, 1], [2]), ([1, 3, 3], [1, 3]), ([4], [4]), ([5], [5]), ([5], [5]), ([5], [5]), ([6, 4, 0, 1, 2, 3, 4, 5, 6], [6]), ([7, 9, 0, 1, 2, 3, 4, 5, 6, 7, 9], [7]), ([8, 10, 0, 1, 2, 3, 4, 5, 6, 7, 8, 9, 10], [8])])
def laws_FnExactMisfitsOf.B8 : List Nat := [0, 1, 0, 7, 15, 31, 63, 63, 63, 127, 767, 2047]
theorem laws_FnExactMisfitsOf.tab8 : rtab .any (opsOf Try.f14 8) = laws_FnExactMisfitsOf.T8 := by kernel_rfl
theorem laws_FnExactMisfitsOf.bits8 : waitsOk laws_FnExactMisfitsOf.T8.2 laws_FnExactMisfitsOf.B8 = true := by kernel_rfl
def laws_FnExactMisfitsOf.T35 : Bool × List (List Nat × List Nat) := (true, [([], []), ([0], [0]), ([], []), ([2, 1], [2]), ([1, 3, 3], [1, 3]), ([4], [4]), ([5], [5]), ([5], [5]), ([5], [5]), ([6, 4, 0, 1, 2, 3, 4, 5, 6], [6]), ([7, 9, 0, 1, 2, 3, 4, 5, 6, 7, 9], [7]), ([8, 10, 0, 1, 2, 3, 4, 5, 6, 7, 8, 9, 10], [8])])
def laws_FnExactMisfitsOf.B35 : List Nat := [0, 1, 0, 7, 15, 31, 63, 63, 63, 127, 767, 2047]
theorem laws_FnExactMisfitsOf.tab35 : rtab .any (opsOf Try.f14 35) = laws_FnExactMisfitsOf.T35 := by kernel_rfl
theorem laws_FnExactMisfitsOf.bits35 : waitsOk laws_FnExactMisfitsOf.T35.2 laws_FnExactMisfitsOf.B35 = true := by kernel_rfl
set_option maxHeartbeats 8000000 in
set_option maxRecDepth 100000 in
theorem laws_FnExactMisfitsOf.calls (k : Nat) (a0_0 : Bool) (A0_1 : Option Addr) (c0_1 : Nat) (l0_1 : List (S90)) (a0_2 : Vector Int 16) (a1_0 : Bool) (A1_1 : Option Addr) (c1_1 : Nat) (l1_1 : List (S90)) (a1_2 : Vector Int 16) (r : Bool) (w : World) (hr0_1 : Kd.C k90 w A0_1 l0_1.length l0_1) (hc0_1 : l0_1.length ≤ c0_1) (hr1_1 : Kd.C k90 w A1_1 l1_1.length l1_1) (hc1_1 : l1_1.length ≤ c1_1) (h : laws_FnExactMisfitsOf.f k a0_0 l0_1 a0_2 a1_0 l1_1 a1_2 = some r) (ht : r = true) :
    Calls Try.prog 14 #[.agg (⟨(.bool a0_0) :: (.slice A0_1 l0_1.length c0_1) :: Arr.arL .i8 a0_2⟩ : Array Value), .agg (⟨(.bool a1_0) :: (.slice A1_1 l1_1.length c1_1) :: Arr.arL .i8 a1_2⟩ : Array Value)] w fun e w' => e = .returned (.bool r) ∧ Below w.heap.size w w' := by
  have hu42 := Try.underlying42
  have hu47 := Try.underlying47
  have HR0_1 := Aside0.mk hr0_1
  have HC0_1 := Aside0.mk hc0_1
  clear hr0_1 hc0_1
  have HR1_1 := Aside0.mk hr1_1
  have HC1_1 := Aside0.mk hc1_1
  clear hr1_1 hc1_1
  have HB := Aside0.mk (Below.refl w.heap.size w)
  have H : ((laws_szHalf.f a0_0 l0_1 a0_2 1048576).bind fun t247 => (if t247 < 0 then (some true) else ((laws_szHalf.f a1_0 l1_1 a1_2 t247).bind fun t248 => (if t248 < 0 then (some true) else ((laws_toHalf.f k a0_0 l0_1 a0_2).bind fun bt249 => ((laws_toHalf.f k a1_0 l1_1 a1_2).bind fun bt254 => ((spec_MisfitsOf.f k bt249.1 bt249.2.1 bt249.2.2 bt254.1 bt254.2.1 bt254.2.2).bind fun bt259 => ((laws_toHalf.f k a0_0 l0_1 a0_2).bind fun bt266 => ((laws_toHalf.f k a1_0 l1_1 a1_2).bind fun bt272 => ((impl_MisfitsOf.f k bt266.1 bt266.2.1 bt266.2.2 bt272.1 bt272.2.1 bt272.2.2).bind fun bt278 => ((laws_eqInt64S.f k bt278.1 bt259.1).bind fun t285 => (if t285 = true then ((laws_eqInt64S.f k bt278.2.1 bt259.2.1).bind fun t286 => (if t286 = true then (laws_FnExactMisfitsOf.j0 k bt259.1 bt259.2.1 bt259.2.2 bt278.1 bt278.2.1 bt278.2.2 (bt278.2.2 != bt259.2.2) a0_0 l0_1 a0_2 a1_0 l1_1 a1_2 bt266.1 bt266.2.1 bt266.2.2 bt272.1 bt272.2.1 bt272.2.2) else (laws_FnExactMisfitsOf.j0 k bt259.1 bt259.2.1 bt259.2.2 bt278.1 bt278.2.1 bt278.2.2 true a0_0 l0_1 a0_2 a1_0 l1_1 a1_2 bt266.1 bt266.2.1 bt266.2.2 bt272.1 bt272.2.1 bt272.2.2))) else (laws_FnExactMisfitsOf.j0 k bt259.1 bt259.2.1 bt259.2.2 bt278.1 bt278.2.1 bt278.2.2 true a0_0 l0_1 a0_2 a1_0 l1_1 a1_2 bt266.1 bt266.2.1 bt266.2.2 bt272.1 bt272.2.1 bt272.2.2))))))))))))) = some r := h
  clear h
  replace H := Option.bind_eq_some_iff.mp H
  obtain ⟨t247, A40, H⟩ := H
  replace H : (if t247 < 0 then (some true) else ((laws_szHalf.f a1_0 l1_1 a1_2 t247).bind fun t248 => (if t248 < 0 then (some true) else ((laws_toHalf.f k a0_0 l0_1 a0_2).bind fun bt249 => ((laws_toHalf.f k a1_0 l1_1 a1_2).bind fun bt254 => ((spec_MisfitsOf.f k bt249.1 bt249.2.1 bt249.2.2 bt254.1 bt254.2.1 bt254.2.2).bind fun bt259 => ((laws_toHalf.f k a0_0 l0_1 a0_2).bind fun bt266 => ((laws_toHalf.f k a1_0 l1_1 a1_2).bind fun bt272 => ((impl_MisfitsOf.f k bt266.1 bt266.2.1 bt266.2.2 bt272.1 bt272.2.1 bt272.2.2).bind fun bt278 => ((laws_eqInt64S.f k bt278.1 bt259.1).bind fun t285 => (if t285 = true then ((laws_eqInt64S.f k bt278.2.1 bt259.2.1).bind fun t286 => (if t286 = true then (laws_FnExactMisfitsOf.j0 k bt259.1 bt259.2.1 bt259.2.2 bt278.1 bt278.2.1 bt278.2.2 (bt278.2.2 != bt259.2.2) a0_0 l0_1 a0_2 a1_0 l1_1 a1_2 bt266.1 bt266.2.1 bt266.2.2 bt272.1 bt272.2.1 bt272.2.2) else (laws_FnExactMisfitsOf.j0 k bt259.1 bt259.2.1 bt259.2.2 bt278.1 bt278.2.1 bt278.2.2 true a0_0 l0_1 a0_2 a1_0 l1_1 a1_2 bt266.1 bt266.2.1 bt266.2.2 bt272.1 bt272.2.1 bt272.2.2))) else (laws_FnExactMisfitsOf.j0 k bt259.1 bt259.2.1 bt259.2.2 bt278.1 bt278.2.1 bt278.2.2 true a0_0 l0_1 a0_2 a1_0 l1_1 a1_2 bt266.1 bt266.2.1 bt266.2.2 bt272.1 bt272.2.1 bt272.2.2)))))))))))) = some r := H
  have A4 := Aside0.mk A40
  clear A40
  by_cases c5 : t247 < 0
  · rw [if_pos c5] at H
    have c5b0 : decide (t247 < 0) = true := decide_eq_true c5
    clear c5
    obtain rfl := Option.some.inj H
    go_enter Try.func14, Try.ntmps14
    go_wp2_with (first | ((with_reducible refine gate_dst (N := 2) rfl ?_); refine box_event ?hg (N := 2) ?hd (cs := (⟨(.bool a0_0) :: (.slice A0_1 l0_1.length c0_1) :: Arr.arL .i8 a0_2⟩ : Array Value)) (t := 42) ?hr ?_; (case hd => rfl); (case hg => rfl); (case hr => first | (go_simp; done) | (go_simp; rfl)); intro gb245 hg w6 hbox hb; have n0_ := Aside0.mk (below_step (by repeat (first | (with_reducible first | exact HB.out | apply below_alloc | apply pw_below_drewN | apply below_drew1) | exact HB.out)) hb); have n1_ := Aside0.mk (hbox); have n2_ := Aside0.mk ((by rw [hg]; exact (below_size (by repeat (first | (with_reducible first | exact HB.out | apply below_alloc | apply pw_below_drewN | apply below_drew1) | exact HB.out))) : w.heap.size ≤ gb245)); have n3_ := Aside0.mk ((by rw [hg]; exact (below_size (by repeat (first | (with_reducible first | exact HB.out | apply below_alloc | apply pw_below_drewN | apply below_drew1) | exact HB.out))) : w.heap.size ≤ gb245)); clear HB; have HB := n0_; have BK245 := n1_; have GW245 := n2_; have GE245 := n3_; clear n0_ n1_ n2_ n3_; clear hb hbox hg) | ((with_reducible refine gate_dst (N := 3) rfl ?_); refine box_event ?hg (N := 3) ?hd (cs := (⟨(.bool a1_0) :: (.slice A1_1 l1_1.length c1_1) :: Arr.arL .i8 a1_2⟩ : Array Value)) (t := 42) ?hr ?_; (case hd => rfl); (case hg => rfl); (case hr => first | (go_simp; done) | (go_simp; rfl)); intro gb246 hg w7 hbox hb; have n0_ := Aside0.mk (blk_below (g := gb245) (o := .cells (⟨(.bool a0_0) :: (.slice A0_1 l0_1.length c0_1) :: Arr.arL .i8 a0_2⟩ : Array Value) 42 (0, 0)) (by (with_reducible repeat (first | refine blk_drewN ?_ _ | refine blk_drew ?_ | refine blk_alloc ?_ _)); exact BK245.out) hb); have n1_ := Aside0.mk (below_step (by repeat (first | (with_reducible first | exact HB.out | apply below_alloc | apply pw_below_drewN | apply below_drew1 | refine below_set ?_ GE245.out) | exact HB.out)) hb); have n2_ := Aside0.mk (hbox); have n3_ := Aside0.mk ((by rw [hg]; exact (below_size (by repeat (first | (with_reducible first | exact HB.out | apply below_alloc | apply pw_below_drewN | apply below_drew1 | refine below_set ?_ GE245.out) | exact HB.out))) : w.heap.size ≤ gb246)); have n4_ := Aside0.mk ((by rw [hg]; exact (below_size (by repeat (first | (with_reducible first | exact HB.out | apply below_alloc | apply pw_below_drewN | apply below_drew1 | refine below_set ?_ GE245.out) | exact HB.out))) : w.heap.size ≤ gb246)); have n5_ := Aside0.mk ((by rw [hg]; exact Nat.ne_of_lt (blk_lt (g := gb245) (o := .cells (⟨(.bool a0_0) :: (.slice A0_1 l0_1.length c0_1) :: Arr.arL .i8 a0_2⟩ : Array Value) 42 (0, 0)) (by (with_reducible repeat (first | refine blk_drewN ?_ _ | refine blk_drew ?_ | refine blk_alloc ?_ _)); exact BK245.out)) : gb245 ≠ gb246)); have n6_ := Aside0.mk ((by rw [hg]; exact Nat.ne_of_gt (blk_lt (g := gb245) (o := .cells (⟨(.bool a0_0) :: (.slice A0_1 l0_1.length c0_1) :: Arr.arL .i8 a0_2⟩ : Array Value) 42 (0, 0)) (by (with_reducible repeat (first | refine blk_drewN ?_ _ | refine blk_drew ?_ | refine blk_alloc ?_ _)); exact BK245.out)) : gb246 ≠ gb245)); clear BK245; clear HB; have BK245 := n0_; have HB := n1_; have BK246 := n2_; have GW246 := n3_; have GE246 := n4_; have NB245_246 := n5_; have NB246_245 := n6_; clear n0_ n1_ n2_ n3_ n4_ n5_ n6_; clear hb hbox hg) | ((with_reducible refine Arr.gate_load (t := 42) (p := 2) rfl ?_); (try (refine gate_guard (by rfl) ?_; dsimp only)); refine Arr.loadA ?hg (T := 42) (p := 2) ?ho (g := gb245) (off := 0) ?hx (t := 42) (l := ((.bool a0_0) :: (.slice A0_1 l0_1.length c0_1) :: Arr.arL .i8 a0_2)) (m := ((.bool a0_0) :: (.slice A0_1 l0_1.length c0_1) :: Arr.arL .i8 a0_2)) (fr := (0, 0)) (show w7.heap[gb245]? = some (.cells (⟨(.bool a0_0) :: (.slice A0_1 l0_1.length c0_1) :: Arr.arL .i8 a0_2⟩ : Array Value) 42 (0, 0)) from by (with_reducible repeat (first | refine blk_drewN ?_ _ | refine blk_drew ?_ | refine blk_alloc ?_ _)); exact BK245.out) rfl Try.underlying42 rfl (n := 18) (by kernel_rfl) (by simp [Arr.arL_length]) ?_; (case hg => rfl); (case ho => rfl); (case hx => first | (go_simp; done) | rfl | (go_simp; rfl))) | ((with_reducible refine gate_callee (f := 27) rfl ?_); refine goesL_ (some 22) rfl rfl Try.func27 (by kernel_rfl) rfl #[.agg (⟨(.bool a0_0) :: (.slice A0_1 l0_1.length c0_1) :: Arr.arL .i8 a0_2⟩ : Array Value), .int .i64 1048576] rfl (by (try simp only [List.map_toArray, List.map_cons, List.map_nil]); first | done | (go_simp; done) | rfl | (simp only [List.length_drop, List.length_take]; rfl)) ?_; (with_reducible refine (laws_szHalf.calls a0_0 _ _ l0_1 a0_2 1048576 t247 _ ?side1 ?side2 A4.out).mono ?_); (case side1 => repeat (first | exact (Kd.C_below HR0_1.out HB.out) | (with_reducible refine Kd.C_alloc ?_ _) | (with_reducible refine Kd.C_drewN ?_ _) | (with_reducible refine Kd.C_drew ?_))); (case side2 => exact HC0_1.out); rintro e w8 ⟨rfl, hb⟩; refine ⟨_, rfl, ?_⟩; have n0_ := Aside0.mk (blk_below (g := gb245) (o := .cells (⟨(.bool a0_0) :: (.slice A0_1 l0_1.length c0_1) :: Arr.arL .i8 a0_2⟩ : Array Value) 42 (0, 0)) (by (with_reducible repeat (first | refine blk_drewN ?_ _ | refine blk_drew ?_ | refine blk_alloc ?_ _)); exact BK245.out) hb); have n1_ := Aside0.mk (blk_below (g := gb246) (o := .cells (⟨(.bool a1_0) :: (.slice A1_1 l1_1.length c1_1) :: Arr.arL .i8 a1_2⟩ : Array Value) 42 (0, 0)) (by (with_reducible repeat (first | refine blk_drewN ?_ _ | refine blk_drew ?_ | refine blk_alloc ?_ _)); exact BK246.out) hb); have n2_ := Aside0.mk (below_step (by repeat (first | (with_reducible first | exact HB.out | apply below_alloc | apply pw_below_drewN | apply below_drew1 | refine below_set ?_ GE245.out | refine below_set ?_ GE246.out) | exact HB.out)) hb); clear BK245; clear BK246; clear HB; have BK245 := n0_; have BK246 := n1_; have HB := n2_; clear n0_ n1_ n2_; (try clear hb); (try clear hb2); (try clear hk); (try clear hi)))
    go_ret
    exact ⟨by first | rfl | (simp [errW_none, errW_some] <;> rfl) | (simp [*, errW_none, errW_some] <;> rfl), by repeat (first | (with_reducible first | exact HB.out | apply below_alloc | apply pw_below_drewN | apply below_drew1 | refine below_set ?_ GE245.out | refine below_set ?_ GE246.out) | exact HB.out)⟩
  rw [if_neg c5] at H
  have c5b0 : decide (t247 < 0) = false := decide_eq_false c5
  clear c5
  replace H := Option.bind_eq_some_iff.mp H
  obtain ⟨t248, A100, H⟩ := H
  replace H : (if t248 < 0 then (some true) else ((laws_toHalf.f k a0_0 l0_1 a0_2).bind fun bt249 => ((laws_toHalf.f k a1_0 l1_1 a1_2).bind fun bt254 => ((spec_MisfitsOf.f k bt249.1 bt249.2.1 bt249.2.2 bt254.1 bt254.2.1 bt254.2.2).bind fun bt259 => ((laws_toHalf.f k a0_0 l0_1 a0_2).bind fun bt266 => ((laws_toHalf.f k a1_0 l1_1 a1_2).bind fun bt272 => ((impl_MisfitsOf.f k bt266.1 bt266.2.1 bt266.2.2 bt272.1 bt272.2.1 bt272.2.2).bind fun bt278 => ((laws_eqInt64S.f k bt278.1 bt259.1).bind fun t285 => (if t285 = true then ((laws_eqInt64S.f k bt278.2.1 bt259.2.1).bind fun t286 => (if t286 = true then (laws_FnExactMisfitsOf.j0 k bt259.1 bt259.2.1 bt259.2.2 bt278.1 bt278.2.1 bt278.2.2 (bt278.2.2 != bt259.2.2) a0_0 l0_1 a0_2 a1_0 l1_1 a1_2 bt266.1 bt266.2.1 bt266.2.2 bt272.1 bt272.2.1 bt272.2.2) else (laws_FnExactMisfitsOf.j0 k bt259.1 bt259.2.1 bt259.2.2 bt278.1 bt278.2.1 bt278.2.2 true a0_0 l0_1 a0_2 a1_0 l1_1 a1_2 bt266.1 bt266.2.1 bt266.2.2 bt272.1 bt272.2.1 bt272.2.2))) else (laws_FnExactMisfitsOf.j0 k bt259.1 bt259.2.1 bt259.2.2 bt278.1 bt278.2.1 bt278.2.2 true a0_0 l0_1 a0_2 a1_0 l1_1 a1_2 bt266.1 bt266.2.1 bt266.2.2 bt272.1 bt272.2.1 bt272.2.2)))))))))) = some r := H
  have A10 := Aside0.mk A100
  clear A100
  by_cases c11 : t248 < 0
  · rw [if_pos c11] at H
    have c11b0 : decide (t248 < 0) = true := decide_eq_true c11
    clear c11
    obtain rfl := Option.some.inj H
    go_enter Try.func14, Try.ntmps14
    go_wp2_with (first | ((with_reducible refine gate_dst (N := 2) rfl ?_); refine box_event ?hg (N := 2) ?hd (cs := (⟨(.bool a0_0) :: (.slice A0_1 l0_1.length c0_1) :: Arr.arL .i8 a0_2⟩ : Array Value)) (t := 42) ?hr ?_; (case hd => rfl); (case hg => rfl); (case hr => first | (go_simp; done) | (go_simp; rfl)); intro gb245 hg w12 hbox hb; have n0_ := Aside0.mk (below_step (by repeat (first | (with_reducible first | exact HB.out | apply below_alloc | apply pw_below_drewN | apply below_drew1) | exact HB.out)) hb); have n1_ := Aside0.mk (hbox); have n2_ := Aside0.mk ((by rw [hg]; exact (below_size (by repeat (first | (with_reducible first | exact HB.out | apply below_alloc | apply pw_below_drewN | apply below_drew1) | exact HB.out))) : w.heap.size ≤ gb245)); have n3_ := Aside0.mk ((by rw [hg]; exact (below_size (by repeat (first | (with_reducible first | exact HB.out | apply below_alloc | apply pw_below_drewN | apply below_drew1) | exact HB.out))) : w.heap.size ≤ gb245)); clear HB; have HB := n0_; have BK245 := n1_; have GW245 := n2_; have GE245 := n3_; clear n0_ n1_ n2_ n3_; clear hb hbox hg) | ((with_reducible refine gate_dst (N := 3) rfl ?_); refine box_event ?hg (N := 3) ?hd (cs := (⟨(.bool a1_0) :: (.slice A1_1 l1_1.length c1_1) :: Arr.arL .i8 a1_2⟩ : Array Value)) (t := 42) ?hr ?_; (case hd => rfl); (case hg => rfl); (case hr => first | (go_simp; done) | (go_simp; rfl)); intro gb246 hg w13 hbox hb; have n0_ := Aside0.mk (blk_below (g := gb245) (o := .cells (⟨(.bool a0_0) :: (.slice A0_1 l0_1.length c0_1) :: Arr.arL .i8 a0_2⟩ : Array Value) 42 (0, 0)) (by (with_reducible repeat (first | refine blk_drewN ?_ _ | refine blk_drew ?_ | refine blk_alloc ?_ _)); exact BK245.out) hb); have n1_ := Aside0.mk (below_step (by repeat (first | (with_reducible first | exact HB.out | apply below_alloc | apply pw_below_drewN | apply below_drew1 | refine below_set ?_ GE245.out) | exact HB.out)) hb); have n2_ := Aside0.mk (hbox); have n3_ := Aside0.mk ((by rw [hg]; exact (below_size (by repeat (first | (with_reducible first | exact HB.out | apply below_alloc | apply pw_below_drewN | apply below_drew1 | refine below_set ?_ GE245.out) | exact HB.out))) : w.heap.size ≤ gb246)); have n4_ := Aside0.mk ((by rw [hg]; exact (below_size (by repeat (first | (with_reducible first | exact HB.out | apply below_alloc | apply pw_below_drewN | apply below_drew1 | refine below_set ?_ GE245.out) | exact HB.out))) : w.heap.size ≤ gb246)); have n5_ := Aside0.mk ((by rw [hg]; exact Nat.ne_of_lt (blk_lt (g := gb245) (o := .cells (⟨(.bool a0_0) :: (.slice A0_1 l0_1.length c0_1) :: Arr.arL .i8 a0_2⟩ : Array Value) 42 (0, 0)) (by (with_reducible repeat (first | refine blk_drewN ?_ _ | refine blk_drew ?_ | refine blk_alloc ?_ _)); exact BK245.out)) : gb245 ≠ gb246)); have n6_ := Aside0.mk ((by rw [hg]; exact Nat.ne_of_gt (blk_lt (g := gb245) (o := .cells (⟨(.bool a0_0) :: (.slice A0_1 l0_1.length c0_1) :: Arr.arL .i8 a0_2⟩ : Array Value) 42 (0, 0)) (by (with_reducible repeat (first | refine blk_drewN ?_ _ | refine blk_drew ?_ | refine blk_alloc ?_ _)); exact BK245.out)) : gb246 ≠ gb245)); clear BK245; clear HB; have BK245 := n0_; have HB := n1_; have BK246 := n2_; have GW246 := n3_; have GE246 := n4_; have NB245_246 := n5_; have NB246_245 := n6_; clear n0_ n1_ n2_ n3_ n4_ n5_ n6_; clear hb hbox hg) | ((with_reducible refine Arr.gate_load (t := 42) (p := 2) rfl ?_); (try (refine gate_guard (by rfl) ?_; dsimp only)); refine Arr.loadA ?hg (T := 42) (p := 2) ?ho (g := gb245) (off := 0) ?hx (t := 42) (l := ((.bool a0_0) :: (.slice A0_1 l0_1.length c0_1) :: Arr.arL .i8 a0_2)) (m := ((.bool a0_0) :: (.slice A0_1 l0_1.length c0_1) :: Arr.arL .i8 a0_2)) (fr := (0, 0)) (show w13.heap[gb245]? = some (.cells (⟨(.bool a0_0) :: (.slice A0_1 l0_1.length c0_1) :: Arr.arL .i8 a0_2⟩ : Array Value) 42 (0, 0)) from by (with_reducible repeat (first | refine blk_drewN ?_ _ | refine blk_drew ?_ | refine blk_alloc ?_ _)); exact BK245.out) rfl Try.underlying42 rfl (n := 18) (by kernel_rfl) (by simp [Arr.arL_length]) ?_; (case hg => rfl); (case ho => rfl); (case hx => first | (go_simp; done) | rfl | (go_simp; rfl))) | ((with_reducible refine gate_callee (f := 27) rfl ?_); refine goesL_ (some 22) rfl rfl Try.func27 (by kernel_rfl) rfl #[.agg (⟨(.bool a0_0) :: (.slice A0_1 l0_1.length c0_1) :: Arr.arL .i8 a0_2⟩ : Array Value), .int .i64 1048576] rfl (by (try simp only [List.map_toArray, List.map_cons, List.map_nil]); first | done | (go_simp; done) | rfl | (simp only [List.length_drop, List.length_take]; rfl)) ?_; (with_reducible refine (laws_szHalf.calls a0_0 _ _ l0_1 a0_2 1048576 t247 _ ?side1 ?side2 A4.out).mono ?_); (case side1 => repeat (first | exact (Kd.C_below HR0_1.out HB.out) | (with_reducible refine Kd.C_alloc ?_ _) | (with_reducible refine Kd.C_drewN ?_ _) | (with_reducible refine Kd.C_drew ?_))); (case side2 => exact HC0_1.out); rintro e w14 ⟨rfl, hb⟩; refine ⟨_, rfl, ?_⟩; have n0_ := Aside0.mk (blk_below (g := gb245) (o := .cells (⟨(.bool a0_0) :: (.slice A0_1 l0_1.length c0_1) :: Arr.arL .i8 a0_2⟩ : Array Value) 42 (0, 0)) (by (with_reducible repeat (first | refine blk_drewN ?_ _ | refine blk_drew ?_ | refine blk_alloc ?_ _)); exact BK245.out) hb); have n1_ := Aside0.mk (blk_below (g := gb246) (o := .cells (⟨(.bool a1_0) :: (.slice A1_1 l1_1.length c1_1) :: Arr.arL .i8 a1_2⟩ : Array Value) 42 (0, 0)) (by (with_reducible repeat (first | refine blk_drewN ?_ _ | refine blk_drew ?_ | refine blk_alloc ?_ _)); exact BK246.out) hb); have n2_ := Aside0.mk (below_step (by repeat (first | (with_reducible first | exact HB.out | apply below_alloc | apply pw_below_drewN | apply below_drew1 | refine below_set ?_ GE245.out | refine below_set ?_ GE246.out) | exact HB.out)) hb); clear BK245; clear BK246; clear HB; have BK245 := n0_; have BK246 := n1_; have HB := n2_; clear n0_ n1_ n2_; (try clear hb); (try clear hb2); (try clear hk); (try clear hi)) | ((with_reducible refine Arr.gate_load (t := 42) (p := 3) rfl ?_); (try (refine gate_guard (by rfl) ?_; dsimp only)); refine Arr.loadA ?hg (T := 42) (p := 3) ?ho (g := gb246) (off := 0) ?hx (t := 42) (l := ((.bool a1_0) :: (.slice A1_1 l1_1.length c1_1) :: Arr.arL .i8 a1_2)) (m := ((.bool a1_0) :: (.slice A1_1 l1_1.length c1_1) :: Arr.arL .i8 a1_2)) (fr := (0, 0)) (show w14.heap[gb246]? = some (.cells (⟨(.bool a1_0) :: (.slice A1_1 l1_1.length c1_1) :: Arr.arL .i8 a1_2⟩ : Array Value) 42 (0, 0)) from by (with_reducible repeat (first | refine blk_drewN ?_ _ | refine blk_drew ?_ | refine blk_alloc ?_ _)); exact BK246.out) rfl Try.underlying42 rfl (n := 18) (by kernel_rfl) (by simp [Arr.arL_length]) ?_; (case hg => rfl); (case ho => rfl); (case hx => first | (go_simp; done) | rfl | (go_simp; rfl))) | ((with_reducible refine gate_callee (f := 27) rfl ?_); refine goesL_ (some 27) rfl rfl Try.func27 (by kernel_rfl) rfl #[.agg (⟨(.bool a1_0) :: (.slice A1_1 l1_1.length c1_1) :: Arr.arL .i8 a1_2⟩ : Array Value), .int .i64 t247] rfl (by (try simp only [List.map_toArray, List.map_cons, List.map_nil]); first | done | (go_simp; done) | rfl | (simp only [List.length_drop, List.length_take]; rfl)) ?_; (with_reducible refine (laws_szHalf.calls a1_0 _ _ l1_1 a1_2 t247 t248 _ ?side1 ?side2 A10.out).mono ?_); (case side1 => repeat (first | exact (Kd.C_below HR1_1.out HB.out) | (with_reducible refine Kd.C_alloc ?_ _) | (with_reducible refine Kd.C_drewN ?_ _) | (with_reducible refine Kd.C_drew ?_))); (case side2 => exact HC1_1.out); rintro e w15 ⟨rfl, hb⟩; refine ⟨_, rfl, ?_⟩; have n0_ := Aside0.mk (blk_below (g := gb245) (o := .cells (⟨(.bool a0_0) :: (.slice A0_1 l0_1.length c0_1) :: Arr.arL .i8 a0_2⟩ : Array Value) 42 (0, 0)) (by (with_reducible repeat (first | refine blk_drewN ?_ _ | refine blk_drew ?_ | refine blk_alloc ?_ _)); exact BK245.out) hb); have n1_ := Aside0.mk (blk_below (g := gb246) (o := .cells (⟨(.bool a1_0) :: (.slice A1_1 l1_1.length c1_1) :: Arr.arL .i8 a1_2⟩ : Array Value) 42 (0, 0)) (by (with_reducible repeat (first | refine blk_drewN ?_ _ | refine blk_drew ?_ | refine blk_alloc ?_ _)); exact BK246.out) hb); have n2_ := Aside0.mk (below_step (by repeat (first | (with_reducible first | exact HB.out | apply below_alloc | apply pw_below_drewN | apply below_drew1 | refine below_set ?_ GE245.out | refine below_set ?_ GE246.out) | exact HB.out)) hb); clear BK245; clear BK246; clear HB; have BK245 := n0_; have BK246 := n1_; have HB := n2_; clear n0_ n1_ n2_; (try clear hb); (try clear hb2); (try clear hk); (try clear hi)))
    go_ret
    exact ⟨by first | rfl | (simp [errW_none, errW_some] <;> rfl) | (simp [*, errW_none, errW_some] <;> rfl), by repeat (first | (with_reducible first | exact HB.out | apply below_alloc | apply pw_below_drewN | apply below_drew1 | refine below_set ?_ GE245.out | refine below_set ?_ GE246.out) | exact HB.out)⟩
  rw [if_neg c11] at H
  have c11b0 : decide (t248 < 0) = false := decide_eq_false c11
  clear c11
  replace H := Option.bind_eq_some_iff.mp H
  obtain ⟨⟨t249, t250, t253⟩, A170, H⟩ := H
  replace H : ((laws_toHalf.f k a1_0 l1_1 a1_2).bind fun bt254 => ((spec_MisfitsOf.f k t249 t250 t253 bt254.1 bt254.2.1 bt254.2.2).bind fun bt259 => ((laws_toHalf.f k a0_0 l0_1 a0_2).bind fun bt266 => ((laws_toHalf.f k a1_0 l1_1 a1_2).bind fun bt272 => ((impl_MisfitsOf.f k bt266.1 bt266.2.1 bt266.2.2 bt272.1 bt272.2.1 bt272.2.2).bind fun bt278 => ((laws_eqInt64S.f k bt278.1 bt259.1).bind fun t285 => (if t285 = true then ((laws_eqInt64S.f k bt278.2.1 bt259.2.1).bind fun t286 => (if t286 = true then (laws_FnExactMisfitsOf.j0 k bt259.1 bt259.2.1 bt259.2.2 bt278.1 bt278.2.1 bt278.2.2 (bt278.2.2 != bt259.2.2) a0_0 l0_1 a0_2 a1_0 l1_1 a1_2 bt266.1 bt266.2.1 bt266.2.2 bt272.1 bt272.2.1 bt272.2.2) else (laws_FnExactMisfitsOf.j0 k bt259.1 bt259.2.1 bt259.2.2 bt278.1 bt278.2.1 bt278.2.2 true a0_0 l0_1 a0_2 a1_0 l1_1 a1_2 bt266.1 bt266.2.1 bt266.2.2 bt272.1 bt272.2.1 bt272.2.2))) else (laws_FnExactMisfitsOf.j0 k bt259.1 bt259.2.1 bt259.2.2 bt278.1 bt278.2.1 bt278.2.2 true a0_0 l0_1 a0_2 a1_0 l1_1 a1_2 bt266.1 bt266.2.1 bt266.2.2 bt272.1 bt272.2.1 bt272.2.2)))))))) = some r := H
  have A17 := Aside0.mk A170
  clear A170
  replace H := Option.bind_eq_some_iff.mp H
  obtain ⟨⟨t254, t255, t258⟩, A190, H⟩ := H
  replace H : ((spec_MisfitsOf.f k t249 t250 t253 t254 t255 t258).bind fun bt259 => ((laws_toHalf.f k a0_0 l0_1 a0_2).bind fun bt266 => ((laws_toHalf.f k a1_0 l1_1 a1_2).bind fun bt272 => ((impl_MisfitsOf.f k bt266.1 bt266.2.1 bt266.2.2 bt272.1 bt272.2.1 bt272.2.2).bind fun bt278 => ((laws_eqInt64S.f k bt278.1 bt259.1).bind fun t285 => (if t285 = true then ((laws_eqInt64S.f k bt278.2.1 bt259.2.1).bind fun t286 => (if t286 = true then (laws_FnExactMisfitsOf.j0 k bt259.1 bt259.2.1 bt259.2.2 bt278.1 bt278.2.1 bt278.2.2 (bt278.2.2 != bt259.2.2) a0_0 l0_1 a0_2 a1_0 l1_1 a1_2 bt266.1 bt266.2.1 bt266.2.2 bt272.1 bt272.2.1 bt272.2.2) else (laws_FnExactMisfitsOf.j0 k bt259.1 bt259.2.1 bt259.2.2 bt278.1 bt278.2.1 bt278.2.2 true a0_0 l0_1 a0_2 a1_0 l1_1 a1_2 bt266.1 bt266.2.1 bt266.2.2 bt272.1 bt272.2.1 bt272.2.2))) else (laws_FnExactMisfitsOf.j0 k bt259.1 bt259.2.1 bt259.2.2 bt278.1 bt278.2.1 bt278.2.2 true a0_0 l0_1 a0_2 a1_0 l1_1 a1_2 bt266.1 bt266.2.1 bt266.2.2 bt272.1 bt272.2.1 bt272.2.2))))))) = some r := H
  have A19 := Aside0.mk A190
  clear A190
  replace H := Option.bind_eq_some_iff.mp H
  obtain ⟨⟨t259, t262, t265⟩, A200, H⟩ := H
  replace H : ((laws_toHalf.f k a0_0 l0_1 a0_2).bind fun bt266 => ((laws_toHalf.f k a1_0 l1_1 a1_2).bind fun bt272 => ((impl_MisfitsOf.f k bt266.1 bt266.2.1 bt266.2.2 bt272.1 bt272.2.1 bt272.2.2).bind fun bt278 => ((laws_eqInt64S.f k bt278.1 t259).bind fun t285 => (if t285 = true then ((laws_eqInt64S.f k bt278.2.1 t262).bind fun t286 => (if t286 = true then (laws_FnExactMisfitsOf.j0 k t259 t262 t265 bt278.1 bt278.2.1 bt278.2.2 (bt278.2.2 != t265) a0_0 l0_1 a0_2 a1_0 l1_1 a1_2 bt266.1 bt266.2.1 bt266.2.2 bt272.1 bt272.2.1 bt272.2.2) else (laws_FnExactMisfitsOf.j0 k t259 t262 t265 bt278.1 bt278.2.1 bt278.2.2 true a0_0 l0_1 a0_2 a1_0 l1_1 a1_2 bt266.1 bt266.2.1 bt266.2.2 bt272.1 bt272.2.1 bt272.2.2))) else (laws_FnExactMisfitsOf.j0 k t259 t262 t265 bt278.1 bt278.2.1 bt278.2.2 true a0_0 l0_1 a0_2 a1_0 l1_1 a1_2 bt266.1 bt266.2.1 bt266.2.2 bt272.1 bt272.2.1 bt272.2.2)))))) = some r := H
  have A20 := Aside0.mk A200
  clear A200
  replace H := Option.bind_eq_some_iff.mp H
  obtain ⟨⟨t266, t267, t270⟩, A220, H⟩ := H
  replace H : ((laws_toHalf.f k a1_0 l1_1 a1_2).bind fun bt272 => ((impl_MisfitsOf.f k t266 t267 t270 bt272.1 bt272.2.1 bt272.2.2).bind fun bt278 => ((laws_eqInt64S.f k bt278.1 t259).bind fun t285 => (if t285 = true then ((laws_eqInt64S.f k bt278.2.1 t262).bind fun t286 => (if t286 = true then (laws_FnExactMisfitsOf.j0 k t259 t262 t265 bt278.1 bt278.2.1 bt278.2.2 (bt278.2.2 != t265) a0_0 l0_1 a0_2 a1_0 l1_1 a1_2 t266 t267 t270 bt272.1 bt272.2.1 bt272.2.2) else (laws_FnExactMisfitsOf.j0 k t259 t262 t265 bt278.1 bt278.2.1 bt278.2.2 true a0_0 l0_1 a0_2 a1_0 l1_1 a1_2 t266 t267 t270 bt272.1 bt272.2.1 bt272.2.2))) else (laws_FnExactMisfitsOf.j0 k t259 t262 t265 bt278.1 bt278.2.1 bt278.2.2 true a0_0 l0_1 a0_2 a1_0 l1_1 a1_2 t266 t267 t270 bt272.1 bt272.2.1 bt272.2.2))))) = some r := H
  have A22 := Aside0.mk A220
  clear A220
  replace H := Option.bind_eq_some_iff.mp H
  obtain ⟨⟨t272, t273, t276⟩, A250, H⟩ := H
  replace H : ((impl_MisfitsOf.f k t266 t267 t270 t272 t273 t276).bind fun bt278 => ((laws_eqInt64S.f k bt278.1 t259).bind fun t285 => (if t285 = true then ((laws_eqInt64S.f k bt278.2.1 t262).bind fun t286 => (if t286 = true then (laws_FnExactMisfitsOf.j0 k t259 t262 t265 bt278.1 bt278.2.1 bt278.2.2 (bt278.2.2 != t265) a0_0 l0_1 a0_2 a1_0 l1_1 a1_2 t266 t267 t270 t272 t273 t276) else (laws_FnExactMisfitsOf.j0 k t259 t262 t265 bt278.1 bt278.2.1 bt278.2.2 true a0_0 l0_1 a0_2 a1_0 l1_1 a1_2 t266 t267 t270 t272 t273 t276))) else (laws_FnExactMisfitsOf.j0 k t259 t262 t265 bt278.1 bt278.2.1 bt278.2.2 true a0_0 l0_1 a0_2 a1_0 l1_1 a1_2 t266 t267 t270 t272 t273 t276)))) = some r := H
  have A25 := Aside0.mk A250
  clear A250
  replace H := Option.bind_eq_some_iff.mp H
  obtain ⟨⟨t278, t281, t284⟩, A290, H⟩ := H
  replace H : ((laws_eqInt64S.f k t278 t259).bind fun t285 => (if t285 = true then ((laws_eqInt64S.f k t281 t262).bind fun t286 => (if t286 = true then (laws_FnExactMisfitsOf.j0 k t259 t262 t265 t278 t281 t284 (t284 != t265) a0_0 l0_1 a0_2 a1_0 l1_1 a1_2 t266 t267 t270 t272 t273 t276) else (laws_FnExactMisfitsOf.j0 k t259 t262 t265 t278 t281 t284 true a0_0 l0_1 a0_2 a1_0 l1_1 a1_2 t266 t267 t270 t272 t273 t276))) else (laws_FnExactMisfitsOf.j0 k t259 t262 t265 t278 t281 t284 true a0_0 l0_1 a0_2 a1_0 l1_1 a1_2 t266 t267 t270 t272 t273 t276))) = some r := H
  have A29 := Aside0.mk A290
  clear A290
  have HC30 := Aside0.mk H
  clear H
  go_enter Try.func14, Try.ntmps14
  try go_wp2_with (first | ((with_reducible refine gate_dst (N := 2) rfl ?_); refine box_event ?hg (N := 2) ?hd (cs := (⟨(.bool a0_0) :: (.slice A0_1 l0_1.length c0_1) :: Arr.arL .i8 a0_2⟩ : Array Value)) (t := 42) ?hr ?_; (case hd => rfl); (case hg => rfl); (case hr => first | (go_simp; done) | (go_simp; rfl)); intro gb245 hg w31 hbox hb; have n0_ := Aside0.mk (below_step (by repeat (first | (with_reducible first | exact HB.out | apply below_alloc | apply pw_below_drewN | apply below_drew1) | exact HB.out)) hb); have n1_ := Aside0.mk (hbox); have n2_ := Aside0.mk ((by rw [hg]; exact (below_size (by repeat (first | (with_reducible first | exact HB.out | apply below_alloc | apply pw_below_drewN | apply below_drew1) | exact HB.out))) : w.heap.size ≤ gb245)); have n3_ := Aside0.mk ((by rw [hg]; exact (below_size (by repeat (first | (with_reducible first | exact HB.out | apply below_alloc | apply pw_below_drewN | apply below_drew1) | exact HB.out))) : w.heap.size ≤ gb245)); clear HB; have HB := n0_; have BK245 := n1_; have GW245 := n2_; have GE245 := n3_; clear n0_ n1_ n2_ n3_; clear hb hbox hg) | ((with_reducible refine gate_dst (N := 3) rfl ?_); refine box_event ?hg (N := 3) ?hd (cs := (⟨(.bool a1_0) :: (.slice A1_1 l1_1.length c1_1) :: Arr.arL .i8 a1_2⟩ : Array Value)) (t := 42) ?hr ?_; (case hd => rfl); (case hg => rfl); (case hr => first | (go_simp; done) | (go_simp; rfl)); intro gb246 hg w32 hbox hb; have n0_ := Aside0.mk (blk_below (g := gb245) (o := .cells (⟨(.bool a0_0) :: (.slice A0_1 l0_1.length c0_1) :: Arr.arL .i8 a0_2⟩ : Array Value) 42 (0, 0)) (by (with_reducible repeat (first | refine blk_drewN ?_ _ | refine blk_drew ?_ | refine blk_alloc ?_ _)); exact BK245.out) hb); have n1_ := Aside0.mk (below_step (by repeat (first | (with_reducible first | exact HB.out | apply below_alloc | apply pw_below_drewN | apply below_drew1 | refine below_set ?_ GE245.out) | exact HB.out)) hb); have n2_ := Aside0.mk (hbox); have n3_ := Aside0.mk ((by rw [hg]; exact (below_size (by repeat (first | (with_reducible first | exact HB.out | apply below_alloc | apply pw_below_drewN | apply below_drew1 | refine below_set ?_ GE245.out) | exact HB.out))) : w.heap.size ≤ gb246)); have n4_ := Aside0.mk ((by rw [hg]; exact (below_size (by repeat (first | (with_reducible first | exact HB.out | apply below_alloc | apply pw_below_drewN | apply below_drew1 | refine below_set ?_ GE245.out) | exact HB.out))) : w.heap.size ≤ gb246)); have n5_ := Aside0.mk ((by rw [hg]; exact Nat.ne_of_lt (blk_lt (g := gb245) (o := .cells (⟨(.bool a0_0) :: (.slice A0_1 l0_1.length c0_1) :: Arr.arL .i8 a0_2⟩ : Array Value) 42 (0, 0)) (by (with_reducible repeat (first | refine blk_drewN ?_ _ | refine blk_drew ?_ | refine blk_alloc ?_ _)); exact BK245.out)) : gb245 ≠ gb246)); have n6_ := Aside0.mk ((by rw [hg]; exact Nat.ne_of_gt (blk_lt (g := gb245) (o := .cells (⟨(.bool a0_0) :: (.slice A0_1 l0_1.length c0_1) :: Arr.arL .i8 a0_2⟩ : Array Value) 42 (0, 0)) (by (with_reducible repeat (first | refine blk_drewN ?_ _ | refine blk_drew ?_ | refine blk_alloc ?_ _)); exact BK245.out)) : gb246 ≠ gb245)); clear BK245; clear HB; have BK245 := n0_; have HB := n1_; have BK246 := n2_; have GW246 := n3_; have GE246 := n4_; have NB245_246 := n5_; have NB246_245 := n6_; clear n0_ n1_ n2_ n3_ n4_ n5_ n6_; clear hb hbox hg) | ((with_reducible refine Arr.gate_load (t := 42) (p := 2) rfl ?_); (try (refine gate_guard (by rfl) ?_; dsimp only)); refine Arr.loadA ?hg (T := 42) (p := 2) ?ho (g := gb245) (off := 0) ?hx (t := 42) (l := ((.bool a0_0) :: (.slice A0_1 l0_1.length c0_1) :: Arr.arL .i8 a0_2)) (m := ((.bool a0_0) :: (.slice A0_1 l0_1.length c0_1) :: Arr.arL .i8 a0_2)) (fr := (0, 0)) (show w32.heap[gb245]? = some (.cells (⟨(.bool a0_0) :: (.slice A0_1 l0_1.length c0_1) :: Arr.arL .i8 a0_2⟩ : Array Value) 42 (0, 0)) from by (with_reducible repeat (first | refine blk_drewN ?_ _ | refine blk_drew ?_ | refine blk_alloc ?_ _)); exact BK245.out) rfl Try.underlying42 rfl (n := 18) (by kernel_rfl) (by simp [Arr.arL_length]) ?_; (case hg => rfl); (case ho => rfl); (case hx => first | (go_simp; done) | rfl | (go_simp; rfl))) | ((with_reducible refine gate_callee (f := 27) rfl ?_); refine goesL_ (some 22) rfl rfl Try.func27 (by kernel_rfl) rfl #[.agg (⟨(.bool a0_0) :: (.slice A0_1 l0_1.length c0_1) :: Arr.arL .i8 a0_2⟩ : Array Value), .int .i64 1048576] rfl (by (try simp only [List.map_toArray, List.map_cons, List.map_nil]); first | done | (go_simp; done) | rfl | (simp only [List.length_drop, List.length_take]; rfl)) ?_; (with_reducible refine (laws_szHalf.calls a0_0 _ _ l0_1 a0_2 1048576 t247 _ ?side1 ?side2 A4.out).mono ?_); (case side1 => repeat (first | exact (Kd.C_below HR0_1.out HB.out) | (with_reducible refine Kd.C_alloc ?_ _) | (with_reducible refine Kd.C_drewN ?_ _) | (with_reducible refine Kd.C_drew ?_))); (case side2 => exact HC0_1.out); rintro e w33 ⟨rfl, hb⟩; refine ⟨_, rfl, ?_⟩; have n0_ := Aside0.mk (blk_below (g := gb245) (o := .cells (⟨(.bool a0_0) :: (.slice A0_1 l0_1.length c0_1) :: Arr.arL .i8 a0_2⟩ : Array Value) 42 (0, 0)) (by (with_reducible repeat (first | refine blk_drewN ?_ _ | refine blk_drew ?_ | refine blk_alloc ?_ _)); exact BK245.out) hb); have n1_ := Aside0.mk (blk_below (g := gb246) (o := .cells (⟨(.bool a1_0) :: (.slice A1_1 l1_1.length c1_1) :: Arr.arL .i8 a1_2⟩ : Array Value) 42 (0, 0)) (by (with_reducible repeat (first | refine blk_drewN ?_ _ | refine blk_drew ?_ | refine blk_alloc ?_ _)); exact BK246.out) hb); have n2_ := Aside0.mk (below_step (by repeat (first | (with_reducible first | exact HB.out | apply below_alloc | apply pw_below_drewN | apply below_drew1 | refine below_set ?_ GE245.out | refine below_set ?_ GE246.out) | exact HB.out)) hb); clear BK245; clear BK246; clear HB; have BK245 := n0_; have BK246 := n1_; have HB := n2_; clear n0_ n1_ n2_; (try clear hb); (try clear hb2); (try clear hk); (try clear hi)) | ((with_reducible refine Arr.gate_load (t := 42) (p := 3) rfl ?_); (try (refine gate_guard (by rfl) ?_; dsimp only)); refine Arr.loadA ?hg (T := 42) (p := 3) ?ho (g := gb246) (off := 0) ?hx (t := 42) (l := ((.bool a1_0) :: (.slice A1_1 l1_1.length c1_1) :: Arr.arL .i8 a1_2)) (m := ((.bool a1_0) :: (.slice A1_1 l1_1.length c1_1) :: Arr.arL .i8 a1_2)) (fr := (0, 0)) (show w33.heap[gb246]? = some (.cells (⟨(.bool a1_0) :: (.slice A1_1 l1_1.length c1_1) :: Arr.arL .i8 a1_2⟩ : Array Value) 42 (0, 0)) from by (with_reducible repeat (first | refine blk_drewN ?_ _ | refine blk_drew ?_ | refine blk_alloc ?_ _)); exact BK246.out) rfl Try.underlying42 rfl (n := 18) (by kernel_rfl) (by simp [Arr.arL_length]) ?_; (case hg => rfl); (case ho => rfl); (case hx => first | (go_simp; done) | rfl | (go_simp; rfl))) | ((with_reducible refine gate_callee (f := 27) rfl ?_); refine goesL_ (some 27) rfl rfl Try.func27 (by kernel_rfl) rfl #[.agg (⟨(.bool a1_0) :: (.slice A1_1 l1_1.length c1_1) :: Arr.arL .i8 a1_2⟩ : Array Value), .int .i64 t247] rfl (by (try simp only [List.map_toArray, List.map_cons, List.map_nil]); first | done | (go_simp; done) | rfl | (simp only [List.length_drop, List.length_take]; rfl)) ?_; (with_reducible refine (laws_szHalf.calls a1_0 _ _ l1_1 a1_2 t247 t248 _ ?side1 ?side2 A10.out).mono ?_); (case side1 => repeat (first | exact (Kd.C_below HR1_1.out HB.out) | (with_reducible refine Kd.C_alloc ?_ _) | (with_reducible refine Kd.C_drewN ?_ _) | (with_reducible refine Kd.C_drew ?_))); (case side2 => exact HC1_1.out); rintro e w34 ⟨rfl, hb⟩; refine ⟨_, rfl, ?_⟩; have n0_ := Aside0.mk (blk_below (g := gb245) (o := .cells (⟨(.bool a0_0) :: (.slice A0_1 l0_1.length c0_1) :: Arr.arL .i8 a0_2⟩ : Array Value) 42 (0, 0)) (by (with_reducible repeat (first | refine blk_drewN ?_ _ | refine blk_drew ?_ | refine blk_alloc ?_ _)); exact BK245.out) hb); have n1_ := Aside0.mk (blk_below (g := gb246) (o := .cells (⟨(.bool a1_0) :: (.slice A1_1 l1_1.length c1_1) :: Arr.arL .i8 a1_2⟩ : Array Value) 42 (0, 0)) (by (with_reducible repeat (first | refine blk_drewN ?_ _ | refine blk_drew ?_ | refine blk_alloc ?_ _)); exact BK246.out) hb); have n2_ := Aside0.mk (below_step (by repeat (first | (with_reducible first | exact HB.out | apply below_alloc | apply pw_below_drewN | apply below_drew1 | refine below_set ?_ GE245.out | refine below_set ?_ GE246.out) | exact HB.out)) hb); clear BK245; clear BK246; clear HB; have BK245 := n0_; have BK246 := n1_; have HB := n2_; clear n0_ n1_ n2_; (try clear hb); (try clear hb2); (try clear hk); (try clear hi)))
  have n0_ := Aside0.mk (blk_drew BK245.out)
  have n1_ := Aside0.mk (blk_drew BK246.out)
  have n2_ := Aside0.mk (below_drew1 HB.out)
  clear BK245
  clear BK246
  clear HB
  have BK245 := n0_
  have BK246 := n1_
  have HB := n2_
  clear n0_ n1_ n2_
  refine start_ (n := 12) (S := fun w' => w'.heap[gb245]? = some (.cells (⟨(.bool a0_0) :: (.slice A0_1 l0_1.length c0_1) :: Arr.arL .i8 a0_2⟩ : Array Value) 42 (0, 0)) ∧ w'.heap[gb246]? = some (.cells (⟨(.bool a1_0) :: (.slice A1_1 l1_1.length c1_1) :: Arr.arL .i8 a1_2⟩ : Array Value) 42 (0, 0))) (ds := []) #[false, false, false, false, false, false, false, false, false, false, false, false] (by kernel_rfl) rfl rfl ⟨BK245.out, BK246.out⟩ (fun hHeld => ?_); refine with_tabW laws_FnExactMisfitsOf.tab8 laws_FnExactMisfitsOf.bits8 (fun HT_ HW_ => ?_)
  generalize w34.drew = w35 at BK245 BK246 HB hHeld ⊢
  refine take_ (i := 0) (N := some 31) (v := ?_) (a' := ?_) #[true, false, false, false, false, false, false, false, false, false, false, false] rfl rfl (take_ofW HT_.out HW_.out (by kernel_rfl)) (fun _ _ _ h => h) (Or.inl ⟨by rfl, ?_⟩) hHeld ?_ ?_
  rotate_left
  · rintro w' ⟨s0, s1⟩
    refine Arr.exec_load (T := 42) (p := 2) (g := gb245) (off := 0) (t := 42) (l := ((.bool a0_0) :: (.slice A0_1 l0_1.length c0_1) :: Arr.arL .i8 a0_2)) (m := ((.bool a0_0) :: (.slice A0_1 l0_1.length c0_1) :: Arr.arL .i8 a0_2)) (fr := (0, 0)) (n := 18) ?_ ?_ s0 ?_ Try.underlying42 ?_ ?_ ?_
    · rfl
    · first | (go_simp; done) | rfl | (go_simp; rfl)
    · rfl
    · rfl
    · kernel_rfl
    simp [Arr.arL_length]
  rotate_left
  · simp only [Act.put, List.setIfInBounds_toArray, List.set_cons_zero, List.set_cons_succ, i64_w, i32_w]
    rfl
  refine take_ (i := 2) (N := some 33) (v := ?_) (a' := ?_) #[true, false, true, false, false, false, false, false, false, false, false, false] rfl rfl (take_ofW HT_.out HW_.out (by kernel_rfl)) (fun _ _ _ h => h) (Or.inl ⟨by rfl, ?_⟩) hHeld ?_ ?_
  rotate_left
  · rintro w' ⟨s0, s1⟩
    refine Arr.exec_load (T := 42) (p := 3) (g := gb246) (off := 0) (t := 42) (l := ((.bool a1_0) :: (.slice A1_1 l1_1.length c1_1) :: Arr.arL .i8 a1_2)) (m := ((.bool a1_0) :: (.slice A1_1 l1_1.length c1_1) :: Arr.arL .i8 a1_2)) (fr := (0, 0)) (n := 18) ?_ ?_ s1 ?_ Try.underlying42 ?_ ?_ ?_
    · rfl
    · first | (go_simp; done) | rfl | (go_simp; rfl)
    · rfl
    · rfl
    · kernel_rfl
    simp [Arr.arL_length]
  rotate_left
  · simp only [Act.put, List.setIfInBounds_toArray, List.set_cons_zero, List.set_cons_succ, i64_w, i32_w]
    rfl
  refine one_ (i := 1) (N := some 32) #[true, true, true, false, false, false, false, false, false, false, false, false] rfl rfl (one_of HT_.out (by kernel_rfl)) (by decide) (fun K hK => ?_)
  refine goes_ Try.func29 (by kernel_rfl) rfl #[.agg (⟨(.bool a0_0) :: (.slice A0_1 l0_1.length c0_1) :: Arr.arL .i8 a0_2⟩ : Array Value)] (by rfl) rfl rfl (by (try simp only [List.map_toArray, List.map_cons, List.map_nil]); first | done | (go_simp; done) | rfl | (simp only [List.length_drop, List.length_take]; rfl)) ?_
  with_reducible refine (laws_toHalf.calls k a0_0 _ _ l0_1 a0_2 t249 t250 t253 _ ?side1 ?side2 A17.out).mono ?_
  (case side1 => repeat (first | exact (Kd.C_below HR0_1.out HB.out) | (with_reducible refine Kd.C_alloc ?_ _) | (with_reducible refine Kd.C_drewN ?_ _) | (with_reducible refine Kd.C_drew ?_)))
  (case side2 => exact HC0_1.out)
  rintro e w36 ⟨v251, rfl, ho0, hb⟩
  refine ⟨_, rfl, ?_⟩
  have n0_ := Aside0.mk (Kd.R_lower ho0 (below_size (by repeat (first | (with_reducible first | exact HB.out | apply below_alloc | apply pw_below_drewN | apply below_drew1 | refine below_set ?_ GE245.out | refine below_set ?_ GE246.out) | exact HB.out))))
  have n1_ := Aside0.mk (blk_below (g := gb245) (o := .cells (⟨(.bool a0_0) :: (.slice A0_1 l0_1.length c0_1) :: Arr.arL .i8 a0_2⟩ : Array Value) 42 (0, 0)) (by (with_reducible repeat (first | refine blk_drewN ?_ _ | refine blk_drew ?_ | refine blk_alloc ?_ _)); exact BK245.out) hb)
  have n2_ := Aside0.mk (blk_below (g := gb246) (o := .cells (⟨(.bool a1_0) :: (.slice A1_1 l1_1.length c1_1) :: Arr.arL .i8 a1_2⟩ : Array Value) 42 (0, 0)) (by (with_reducible repeat (first | refine blk_drewN ?_ _ | refine blk_drew ?_ | refine blk_alloc ?_ _)); exact BK246.out) hb)
  have n3_ := Aside0.mk (below_step (by repeat (first | (with_reducible first | exact HB.out | apply below_alloc | apply pw_below_drewN | apply below_drew1 | refine below_set ?_ GE245.out | refine below_set ?_ GE246.out) | exact HB.out)) hb)
  clear BK245
  clear BK246
  clear HB
  have HO252 := n0_
  have BK245 := n1_
  have BK246 := n2_
  have HB := n3_
  clear n0_ n1_ n2_ n3_
  (try clear hb)
  (try clear hb2)
  (try clear hk)
  (try clear hi)
  (try clear ho0)
  refine hK.out _ _ ⟨BK245.out, BK246.out⟩ (fun hHeld => ?_)
  clear hK K
  refine norm_ (a' := ?_) ?_ ?_
  rotate_left
  · show Act.put _ (some 32) _ = _
    simp only [Act.put, List.setIfInBounds_toArray, List.set_cons_zero, List.set_cons_succ, i64_w, i32_w]
    rfl
  refine one_ (i := 3) (N := some 34) #[true, true, true, true, false, false, false, false, false, false, false, false] rfl rfl (one_of HT_.out (by kernel_rfl)) (by decide) (fun K hK => ?_)
  refine goes_ Try.func29 (by kernel_rfl) rfl #[.agg (⟨(.bool a1_0) :: (.slice A1_1 l1_1.length c1_1) :: Arr.arL .i8 a1_2⟩ : Array Value)] (by rfl) rfl rfl (by (try simp only [List.map_toArray, List.map_cons, List.map_nil]); first | done | (go_simp; done) | rfl | (simp only [List.length_drop, List.length_take]; rfl)) ?_
  with_reducible refine (laws_toHalf.calls k a1_0 _ _ l1_1 a1_2 t254 t255 t258 _ ?side1 ?side2 A19.out).mono ?_
  (case side1 => repeat (first | exact (Kd.C_below HR1_1.out HB.out) | (with_reducible refine Kd.C_alloc ?_ _) | (with_reducible refine Kd.C_drewN ?_ _) | (with_reducible refine Kd.C_drew ?_)))
  (case side2 => exact HC1_1.out)
  rintro e w37 ⟨v256, rfl, ho0, hb⟩
  refine ⟨_, rfl, ?_⟩
  have n0_ := Aside0.mk (Kd.R_elder' (by (with_reducible repeat (first | apply Kd.R_alloc | apply Kd.R_drewN | apply Kd.R_drew)); exact HO252.out) (Kd.R_base ho0) hb)
  have n1_ := Aside0.mk (Kd.R_lower (Kd.R_new' ho0 (Kd.R_lt (by (with_reducible repeat (first | apply Kd.R_alloc | apply Kd.R_drewN | apply Kd.R_drew)); exact HO252.out))) (below_size (by repeat (first | (with_reducible first | exact HB.out | apply below_alloc | apply pw_below_drewN | apply below_drew1 | refine below_set ?_ GE245.out | refine below_set ?_ GE246.out) | exact HB.out))))
  have n2_ := Aside0.mk (blk_below (g := gb245) (o := .cells (⟨(.bool a0_0) :: (.slice A0_1 l0_1.length c0_1) :: Arr.arL .i8 a0_2⟩ : Array Value) 42 (0, 0)) (by (with_reducible repeat (first | refine blk_drewN ?_ _ | refine blk_drew ?_ | refine blk_alloc ?_ _)); exact BK245.out) hb)
  have n3_ := Aside0.mk (blk_below (g := gb246) (o := .cells (⟨(.bool a1_0) :: (.slice A1_1 l1_1.length c1_1) :: Arr.arL .i8 a1_2⟩ : Array Value) 42 (0, 0)) (by (with_reducible repeat (first | refine blk_drewN ?_ _ | refine blk_drew ?_ | refine blk_alloc ?_ _)); exact BK246.out) hb)
  have n4_ := Aside0.mk (below_step (by repeat (first | (with_reducible first | exact HB.out | apply below_alloc | apply pw_below_drewN | apply below_drew1 | refine below_set ?_ GE245.out | refine below_set ?_ GE246.out) | exact HB.out)) hb)
  clear HO252
  clear BK245
  clear BK246
  clear HB
  have HO252 := n0_
  have HO257 := n1_
  have BK245 := n2_
  have BK246 := n3_
  have HB := n4_
  clear n0_ n1_ n2_ n3_ n4_
  (try clear hb)
  (try clear hb2)
  (try clear hk)
  (try clear hi)
  (try clear ho0)
  obtain ⟨Ao38, co38, eo38⟩ := Kd.R_slice HO252.out
  (first | subst eo38 | (injection eo38 with f1_ f2_ f3_; have f4_ := f1_.symm; have f5_ := f3_.symm; clear f1_ f2_ f3_; subst f4_; subst f5_))
  obtain ⟨Ao39, co39, eo39⟩ := Kd.R_slice HO257.out
  (first | subst eo39 | (injection eo39 with f1_ f2_ f3_; have f4_ := f1_.symm; have f5_ := f3_.symm; clear f1_ f2_ f3_; subst f4_; subst f5_))
  refine hK.out _ _ ⟨BK245.out, BK246.out⟩ (fun hHeld => ?_)
  clear hK K
  refine norm_ (a' := ?_) ?_ ?_
  rotate_left
  · show Act.put _ (some 34) _ = _
    simp only [Act.put, List.setIfInBounds_toArray, List.set_cons_zero, List.set_cons_succ, i64_w, i32_w]
    rfl
  refine one_ (i := 4) (N := some 35) #[true, true, true, true, true, false, false, false, false, false, false, false] rfl rfl (one_of HT_.out (by kernel_rfl)) (by decide) (fun K hK => ?_)
  refine goes_ Try.func42 (by kernel_rfl) rfl #[.agg (⟨(.bool t249) :: (.slice Ao38 t250.length co38) :: Arr.arL .i8 t253⟩ : Array Value), .agg (⟨(.bool t254) :: (.slice Ao39 t255.length co39) :: Arr.arL .i8 t258⟩ : Array Value)] (by rfl) rfl rfl (by (try simp only [List.map_toArray, List.map_cons, List.map_nil]); first | done | (go_simp; done) | rfl | (simp only [List.length_drop, List.length_take]; rfl)) ?_
  with_reducible refine (spec_MisfitsOf.calls k t249 _ _ t250 t253 t254 _ _ t255 t258 t259 t262 t265 _ ?side1 ?side2 ?side3 ?side4 A20.out).mono ?_
  (case side1 => repeat (first | exact (Kd.R_reads' HO252.out).2.2 | (with_reducible refine Kd.C_alloc ?_ _) | (with_reducible refine Kd.C_drewN ?_ _) | (with_reducible refine Kd.C_drew ?_)))
  (case side2 => exact (Kd.R_reads' HO252.out).2.1)
  (case side3 => repeat (first | exact (Kd.R_reads' HO257.out).2.2 | (with_reducible refine Kd.C_alloc ?_ _) | (with_reducible refine Kd.C_drewN ?_ _) | (with_reducible refine Kd.C_drew ?_)))
  (case side4 => exact (Kd.R_reads' HO257.out).2.1)
  rintro e w40 ⟨v260, v263, rfl, ho0, ho1, hb⟩
  refine ⟨_, rfl, ?_⟩
  have n0_ := Aside0.mk (Kd.R_below (by (with_reducible repeat (first | apply Kd.R_alloc | apply Kd.R_drewN | apply Kd.R_drew)); exact HO252.out) hb)
  have n1_ := Aside0.mk (Kd.R_below (by (with_reducible repeat (first | apply Kd.R_alloc | apply Kd.R_drewN | apply Kd.R_drew)); exact HO257.out) hb)
  have n2_ := Aside0.mk (Kd.R_lower ho0 (below_size (by repeat (first | (with_reducible first | exact HB.out | apply below_alloc | apply pw_below_drewN | apply below_drew1 | refine below_set ?_ GE245.out | refine below_set ?_ GE246.out) | exact HB.out))))
  have n3_ := Aside0.mk (Kd.R_lower ho1 (below_size (by repeat (first | (with_reducible first | exact HB.out | apply below_alloc | apply pw_below_drewN | apply below_drew1 | refine below_set ?_ GE245.out | refine below_set ?_ GE246.out) | exact HB.out))))
  have n4_ := Aside0.mk (blk_below (g := gb245) (o := .cells (⟨(.bool a0_0) :: (.slice A0_1 l0_1.length c0_1) :: Arr.arL .i8 a0_2⟩ : Array Value) 42 (0, 0)) (by (with_reducible repeat (first | refine blk_drewN ?_ _ | refine blk_drew ?_ | refine blk_alloc ?_ _)); exact BK245.out) hb)
  have n5_ := Aside0.mk (blk_below (g := gb246) (o := .cells (⟨(.bool a1_0) :: (.slice A1_1 l1_1.length c1_1) :: Arr.arL .i8 a1_2⟩ : Array Value) 42 (0, 0)) (by (with_reducible repeat (first | refine blk_drewN ?_ _ | refine blk_drew ?_ | refine blk_alloc ?_ _)); exact BK246.out) hb)
  have n6_ := Aside0.mk (below_step (by repeat (first | (with_reducible first | exact HB.out | apply below_alloc | apply pw_below_drewN | apply below_drew1 | refine below_set ?_ GE245.out | refine below_set ?_ GE246.out) | exact HB.out)) hb)
  clear HO252
  clear HO257
  clear BK245
  clear BK246
  clear HB
  have HO252 := n0_
  have HO257 := n1_
  have HO261 := n2_
  have HO264 := n3_
  have BK245 := n4_
  have BK246 := n5_
  have HB := n6_
  clear n0_ n1_ n2_ n3_ n4_ n5_ n6_
  (try clear hb)
  (try clear hb2)
  (try clear hk)
  (try clear hi)
  (try clear ho0)
  (try clear ho1)
  refine hK.out _ _ ⟨BK245.out, BK246.out⟩ (fun hHeld => ?_)
  clear hK K
  refine norm_ (a' := ?_) ?_ ?_
  rotate_left
  · show Act.put _ (some 35) _ = _
    simp only [Act.put, List.setIfInBounds_toArray, List.set_cons_zero, List.set_cons_succ, i64_w, i32_w]
    rfl
  refine pure_ (i := 5) (N := some 30) (v := ?_) (a' := ?_) #[true, true, true, true, true, true, false, false, false, false, false, false] rfl rfl (any_of HT_.out (by kernel_rfl)) (fun _ _ _ h => h) (Or.inl ⟨by rfl, ?_⟩) ?_ ?_
  rotate_left
  · intro w'
    go_simp
    with_reducible rfl
  rotate_left
  · simp only [Act.put, List.setIfInBounds_toArray, List.set_cons_zero, List.set_cons_succ, i64_w, i32_w]
    rfl
  refine pure_ (i := 6) (N := some 36) (v := ?_) (a' := ?_) #[true, true, true, true, true, true, true, false, false, false, false, false] rfl rfl (any_of HT_.out (by kernel_rfl)) (fun _ _ _ h => h) (Or.inl ⟨by rfl, ?_⟩) ?_ ?_
  rotate_left
  · intro w'
    go_simp
    with_reducible rfl
  rotate_left
  · simp only [Act.put, List.setIfInBounds_toArray, List.set_cons_zero, List.set_cons_succ, i64_w, i32_w]
    rfl
  refine pure_ (i := 7) (N := some 37) (v := ?_) (a' := ?_) #[true, true, true, true, true, true, true, true, false, false, false, false] rfl rfl (any_of HT_.out (by kernel_rfl)) (fun _ _ _ h => h) (Or.inl ⟨by rfl, ?_⟩) ?_ ?_
  rotate_left
  · intro w'
    go_simp
    with_reducible rfl
  rotate_left
  · simp only [Act.put, List.setIfInBounds_toArray, List.set_cons_zero, List.set_cons_succ, i64_w, i32_w]
    rfl
  refine pure_ (i := 8) (N := some 38) (v := ?_) (a' := ?_) #[true, true, true, true, true, true, true, true, true, false, false, false] rfl rfl (any_of HT_.out (by kernel_rfl)) (fun _ _ _ h => h) (Or.inl ⟨by rfl, ?_⟩) ?_ ?_
  rotate_left
  · intro w'
    go_simp
    with_reducible rfl
  rotate_left
  · simp only [Act.put, List.setIfInBounds_toArray, List.set_cons_zero, List.set_cons_succ, i64_w, i32_w]
    rfl
  refine pure_ (i := 9) (N := some 6) (v := ?_) (a' := ?_) #[true, true, true, true, true, true, true, true, true, true, false, false] rfl rfl (any_of HT_.out (by kernel_rfl)) (fun _ _ _ h => h) (Or.inl ⟨by rfl, ?_⟩) ?_ ?_
  rotate_left
  · intro w'
    go_simp
    with_reducible rfl
  rotate_left
  · simp only [Act.put, List.setIfInBounds_toArray, List.set_cons_zero, List.set_cons_succ, i64_w, i32_w]
    rfl
  refine pure_ (i := 10) (N := some 7) (v := ?_) (a' := ?_) #[true, true, true, true, true, true, true, true, true, true, true, false] rfl rfl (any_of HT_.out (by kernel_rfl)) (fun _ _ _ h => h) (Or.inl ⟨by rfl, ?_⟩) ?_ ?_
  rotate_left
  · intro w'
    go_simp
    with_reducible rfl
  rotate_left
  · simp only [Act.put, List.setIfInBounds_toArray, List.set_cons_zero, List.set_cons_succ, i64_w, i32_w]
    rfl
  refine pure_ (i := 11) (N := some 8) (v := ?_) (a' := ?_) #[true, true, true, true, true, true, true, true, true, true, true, true] rfl rfl (any_of HT_.out (by kernel_rfl)) (fun _ _ _ h => h) (Or.inl ⟨by rfl, ?_⟩) ?_ ?_
  rotate_left
  · intro w'
    go_simp
    with_reducible rfl
  rotate_left
  · simp only [Act.put, List.setIfInBounds_toArray, List.set_cons_zero, List.set_cons_succ, i64_w, i32_w]
    rfl
  refine done_ (done_of HT_.out (by kernel_rfl)) ?_
  go_upto_region 12 with (first | ((with_reducible refine Arr.gate_load (t := 42) (p := 2) rfl ?_); (try (refine gate_guard (by rfl) ?_; dsimp only)); refine Arr.loadA ?hg (T := 42) (p := 2) ?ho (g := gb245) (off := 0) ?hx (t := 42) (l := ((.bool a0_0) :: (.slice A0_1 l0_1.length c0_1) :: Arr.arL .i8 a0_2)) (m := ((.bool a0_0) :: (.slice A0_1 l0_1.length c0_1) :: Arr.arL .i8 a0_2)) (fr := (0, 0)) (show w40.heap[gb245]? = some (.cells (⟨(.bool a0_0) :: (.slice A0_1 l0_1.length c0_1) :: Arr.arL .i8 a0_2⟩ : Array Value) 42 (0, 0)) from by (with_reducible repeat (first | refine blk_drewN ?_ _ | refine blk_drew ?_ | refine blk_alloc ?_ _)); exact BK245.out) rfl Try.underlying42 rfl (n := 18) (by kernel_rfl) (by simp [Arr.arL_length]) ?_; (case hg => rfl); (case ho => rfl); (case hx => first | (go_simp; done) | rfl | (go_simp; rfl))) | ((with_reducible refine gate_callee (f := 29) rfl ?_); refine goesL_ (some 40) rfl rfl Try.func29 (by kernel_rfl) rfl #[.agg (⟨(.bool a0_0) :: (.slice A0_1 l0_1.length c0_1) :: Arr.arL .i8 a0_2⟩ : Array Value)] rfl (by (try simp only [List.map_toArray, List.map_cons, List.map_nil]); first | done | (go_simp; done) | rfl | (simp only [List.length_drop, List.length_take]; rfl)) ?_; (with_reducible refine (laws_toHalf.calls k a0_0 _ _ l0_1 a0_2 t266 t267 t270 _ ?side1 ?side2 A22.out).mono ?_); (case side1 => repeat (first | exact (Kd.C_below HR0_1.out HB.out) | (with_reducible refine Kd.C_alloc ?_ _) | (with_reducible refine Kd.C_drewN ?_ _) | (with_reducible refine Kd.C_drew ?_))); (case side2 => exact HC0_1.out); rintro e w41 ⟨v268, rfl, ho0, hb⟩; refine ⟨_, rfl, ?_⟩; have n0_ := Aside0.mk (Kd.R_elder' (by (with_reducible repeat (first | apply Kd.R_alloc | apply Kd.R_drewN | apply Kd.R_drew)); exact HO252.out) (Kd.R_base ho0) hb); have n1_ := Aside0.mk (Kd.R_elder' (by (with_reducible repeat (first | apply Kd.R_alloc | apply Kd.R_drewN | apply Kd.R_drew)); exact HO257.out) (Kd.R_base ho0) hb); have n2_ := Aside0.mk (Kd.R_below (by (with_reducible repeat (first | apply Kd.R_alloc | apply Kd.R_drewN | apply Kd.R_drew)); exact HO261.out) hb); have n3_ := Aside0.mk (Kd.R_below (by (with_reducible repeat (first | apply Kd.R_alloc | apply Kd.R_drewN | apply Kd.R_drew)); exact HO264.out) hb); have n4_ := Aside0.mk (Kd.R_lower (Kd.R_new' (Kd.R_new' ho0 (Kd.R_lt (by (with_reducible repeat (first | apply Kd.R_alloc | apply Kd.R_drewN | apply Kd.R_drew)); exact HO252.out))) (Kd.R_lt (by (with_reducible repeat (first | apply Kd.R_alloc | apply Kd.R_drewN | apply Kd.R_drew)); exact HO257.out))) (below_size (by repeat (first | (with_reducible first | exact HB.out | apply below_alloc | apply pw_below_drewN | apply below_drew1 | refine below_set ?_ GE245.out | refine below_set ?_ GE246.out) | exact HB.out)))); have n5_ := Aside0.mk (blk_below (g := gb245) (o := .cells (⟨(.bool a0_0) :: (.slice A0_1 l0_1.length c0_1) :: Arr.arL .i8 a0_2⟩ : Array Value) 42 (0, 0)) (by (with_reducible repeat (first | refine blk_drewN ?_ _ | refine blk_drew ?_ | refine blk_alloc ?_ _)); exact BK245.out) hb); have n6_ := Aside0.mk (blk_below (g := gb246) (o := .cells (⟨(.bool a1_0) :: (.slice A1_1 l1_1.length c1_1) :: Arr.arL .i8 a1_2⟩ : Array Value) 42 (0, 0)) (by (with_reducible repeat (first | refine blk_drewN ?_ _ | refine blk_drew ?_ | refine blk_alloc ?_ _)); exact BK246.out) hb); have n7_ := Aside0.mk (below_step (by repeat (first | (with_reducible first | exact HB.out | apply below_alloc | apply pw_below_drewN | apply below_drew1 | refine below_set ?_ GE245.out | refine below_set ?_ GE246.out) | exact HB.out)) hb); clear HO252; clear HO257; clear HO261; clear HO264; clear BK245; clear BK246; clear HB; have HO252 := n0_; have HO257 := n1_; have HO261 := n2_; have HO264 := n3_; have HO269 := n4_; have BK245 := n5_; have BK246 := n6_; have HB := n7_; clear n0_ n1_ n2_ n3_ n4_ n5_ n6_ n7_; (try clear hb); (try clear hb2); (try clear hk); (try clear hi); (try clear ho0)) | ((with_reducible refine gate_dst (N := 9) rfl ?_); refine box_event ?hg (N := 9) ?hd (cs := (⟨(.bool false) :: (.slice none 0 0) :: Arr.arL .i8 (Vector.replicate 16 0 : Vector Int 16)⟩ : Array Value)) (t := 47) ?hr ?_; (case hd => rfl); (case hg => rfl); (case hr => first | (go_simp; done) | (go_simp; rfl)); intro gb271 hg w42 hbox hb; have n0_ := Aside0.mk (Kd.R_below (by (with_reducible repeat (first | apply Kd.R_alloc | apply Kd.R_drewN | apply Kd.R_drew)); exact HO252.out) hb); have n1_ := Aside0.mk (Kd.R_below (by (with_reducible repeat (first | apply Kd.R_alloc | apply Kd.R_drewN | apply Kd.R_drew)); exact HO257.out) hb); have n2_ := Aside0.mk (Kd.R_below (by (with_reducible repeat (first | apply Kd.R_alloc | apply Kd.R_drewN | apply Kd.R_drew)); exact HO261.out) hb); have n3_ := Aside0.mk (Kd.R_below (by (with_reducible repeat (first | apply Kd.R_alloc | apply Kd.R_drewN | apply Kd.R_drew)); exact HO264.out) hb); have n4_ := Aside0.mk (Kd.R_below (by (with_reducible repeat (first | apply Kd.R_alloc | apply Kd.R_drewN | apply Kd.R_drew)); exact HO269.out) hb); have n5_ := Aside0.mk (blk_below (g := gb245) (o := .cells (⟨(.bool a0_0) :: (.slice A0_1 l0_1.length c0_1) :: Arr.arL .i8 a0_2⟩ : Array Value) 42 (0, 0)) (by (with_reducible repeat (first | refine blk_drewN ?_ _ | refine blk_drew ?_ | refine blk_alloc ?_ _)); exact BK245.out) hb); have n6_ := Aside0.mk (blk_below (g := gb246) (o := .cells (⟨(.bool a1_0) :: (.slice A1_1 l1_1.length c1_1) :: Arr.arL .i8 a1_2⟩ : Array Value) 42 (0, 0)) (by (with_reducible repeat (first | refine blk_drewN ?_ _ | refine blk_drew ?_ | refine blk_alloc ?_ _)); exact BK246.out) hb); have n7_ := Aside0.mk (below_step (by repeat (first | (with_reducible first | exact HB.out | apply below_alloc | apply pw_below_drewN | apply below_drew1 | refine below_set ?_ GE245.out | refine below_set ?_ GE246.out) | exact HB.out)) hb); have n8_ := Aside0.mk (hbox); have n9_ := Aside0.mk ((by rw [hg]; exact (below_size (by repeat (first | (with_reducible first | exact HB.out | apply below_alloc | apply pw_below_drewN | apply below_drew1 | refine below_set ?_ GE245.out | refine below_set ?_ GE246.out) | exact HB.out))) : w.heap.size ≤ gb271)); have n10_ := Aside0.mk ((by rw [hg]; exact (below_size (by repeat (first | (with_reducible first | exact HB.out | apply below_alloc | apply pw_below_drewN | apply below_drew1 | refine below_set ?_ GE245.out | refine below_set ?_ GE246.out) | exact HB.out))) : w.heap.size ≤ gb271)); have n11_ := Aside0.mk ((by rw [hg]; exact Nat.ne_of_lt (blk_lt (g := gb245) (o := .cells (⟨(.bool a0_0) :: (.slice A0_1 l0_1.length c0_1) :: Arr.arL .i8 a0_2⟩ : Array Value) 42 (0, 0)) (by (with_reducible repeat (first | refine blk_drewN ?_ _ | refine blk_drew ?_ | refine blk_alloc ?_ _)); exact BK245.out)) : gb245 ≠ gb271)); have n12_ := Aside0.mk ((by rw [hg]; exact Nat.ne_of_gt (blk_lt (g := gb245) (o := .cells (⟨(.bool a0_0) :: (.slice A0_1 l0_1.length c0_1) :: Arr.arL .i8 a0_2⟩ : Array Value) 42 (0, 0)) (by (with_reducible repeat (first | refine blk_drewN ?_ _ | refine blk_drew ?_ | refine blk_alloc ?_ _)); exact BK245.out)) : gb271 ≠ gb245)); have n13_ := Aside0.mk ((by rw [hg]; exact Nat.ne_of_lt (blk_lt (g := gb246) (o := .cells (⟨(.bool a1_0) :: (.slice A1_1 l1_1.length c1_1) :: Arr.arL .i8 a1_2⟩ : Array Value) 42 (0, 0)) (by (with_reducible repeat (first | refine blk_drewN ?_ _ | refine blk_drew ?_ | refine blk_alloc ?_ _)); exact BK246.out)) : gb246 ≠ gb271)); have n14_ := Aside0.mk ((by rw [hg]; exact Nat.ne_of_gt (blk_lt (g := gb246) (o := .cells (⟨(.bool a1_0) :: (.slice A1_1 l1_1.length c1_1) :: Arr.arL .i8 a1_2⟩ : Array Value) 42 (0, 0)) (by (with_reducible repeat (first | refine blk_drewN ?_ _ | refine blk_drew ?_ | refine blk_alloc ?_ _)); exact BK246.out)) : gb271 ≠ gb246)); clear HO252; clear HO257; clear HO261; clear HO264; clear HO269; clear BK245; clear BK246; clear HB; have HO252 := n0_; have HO257 := n1_; have HO261 := n2_; have HO264 := n3_; have HO269 := n4_; have BK245 := n5_; have BK246 := n6_; have HB := n7_; have BK271 := n8_; have GW271 := n9_; have GE271 := n10_; have NB245_271 := n11_; have NB271_245 := n12_; have NB246_271 := n13_; have NB271_246 := n14_; clear n0_ n1_ n2_ n3_ n4_ n5_ n6_ n7_ n8_ n9_ n10_ n11_ n12_ n13_ n14_; clear hb hbox hg; obtain ⟨Ao44, co44, eo44⟩ := Kd.R_slice HO269.out; subst eo44) | ((with_reducible refine gate_store (t := 47) (p := 9) rfl ?_); refine Arr.storeA ?hg (T := 47) (p := 9) (v := ?vo_w43) ?ho ?hn (g := gb271) (off := 0) ?hx (m := ((.bool t266) :: (.slice Ao44 t267.length co44) :: Arr.arL .i8 t270)) ?hy (t := 47) (pre := []) (old := ((.bool false) :: (.slice none 0 0) :: Arr.arL .i8 (Vector.replicate 16 0 : Vector Int 16))) (show w42.heap[gb271]? = some (.cells (⟨(.bool false) :: (.slice none 0 0) :: Arr.arL .i8 (Vector.replicate 16 0 : Vector Int 16)⟩ : Array Value) 47 (0, 0)) from by (with_reducible repeat (first | refine blk_drewN ?_ _ | refine blk_drew ?_ | refine blk_alloc ?_ _)); exact BK271.out) rfl (by simp [Arr.arL_length]) (n := 18) (by kernel_rfl) (by simp [Arr.arL_length]) (Arr.ones_2 rfl rfl) ?_; (case ho => rfl); (case hg => rfl); (case hn => rfl); (case hx => first | (go_simp; done) | rfl | (go_simp; rfl)); (case hy => first | (go_simp; done) | rfl | (go_simp; rfl)); intro w43 hbx hg hbe; replace hbx : w43.heap[gb271]? = some (.cells (⟨(.bool t266) :: (.slice Ao44 t267.length co44) :: Arr.arL .i8 t270⟩ : Array Value) 47 (0, 0)) := hbx; have n0_ := Aside0.mk (blk_grown (g := gb245) (o := .cells (⟨(.bool a0_0) :: (.slice A0_1 l0_1.length c0_1) :: Arr.arL .i8 a0_2⟩ : Array Value) 42 (0, 0)) (by (with_reducible repeat (first | refine blk_drewN ?_ _ | refine blk_drew ?_ | refine blk_alloc ?_ _)); exact BK245.out) hg (fun e_ => NB245_271.out (Option.some.inj e_))); have n1_ := Aside0.mk (blk_grown (g := gb246) (o := .cells (⟨(.bool a1_0) :: (.slice A1_1 l1_1.length c1_1) :: Arr.arL .i8 a1_2⟩ : Array Value) 42 (0, 0)) (by (with_reducible repeat (first | refine blk_drewN ?_ _ | refine blk_drew ?_ | refine blk_alloc ?_ _)); exact BK246.out) hg (fun e_ => NB246_271.out (Option.some.inj e_))); have n2_ := Aside0.mk (Kd.R_grown1 (by (with_reducible repeat (first | apply Kd.R_alloc | apply Kd.R_drewN | apply Kd.R_drew)); exact HO252.out) rfl hg (Kd.R_ne HO252.out BK271.out (by decide))); have n3_ := Aside0.mk (Kd.R_grown1 (by (with_reducible repeat (first | apply Kd.R_alloc | apply Kd.R_drewN | apply Kd.R_drew)); exact HO257.out) rfl hg (Kd.R_ne HO257.out BK271.out (by decide))); have n4_ := Aside0.mk (Kd.R_grown1 (by (with_reducible repeat (first | apply Kd.R_alloc | apply Kd.R_drewN | apply Kd.R_drew)); exact HO261.out) rfl hg (Kd.R_ne HO261.out BK271.out (by decide))); have n5_ := Aside0.mk (Kd.R_grown1 (by (with_reducible repeat (first | apply Kd.R_alloc | apply Kd.R_drewN | apply Kd.R_drew)); exact HO264.out) rfl hg (Kd.R_ne HO264.out BK271.out (by decide))); have n6_ := Aside0.mk (Kd.R_grown1 (by (with_reducible repeat (first | apply Kd.R_alloc | apply Kd.R_drewN | apply Kd.R_drew)); exact HO269.out) rfl hg (Kd.R_ne HO269.out BK271.out (by decide))); have n7_ := Aside0.mk (hbx); have n8_ := Aside0.mk (hbe _ _ (by repeat (first | (with_reducible first | exact HB.out | apply below_alloc | apply pw_below_drewN | apply below_drew1 | refine below_set ?_ GE245.out | refine below_set ?_ GE246.out | refine below_set ?_ GE271.out) | exact HB.out)) GE271.out); clear BK245; clear BK246; clear HO252; clear HO257; clear HO261; clear HO264; clear HO269; clear BK271; clear HB; have BK245 := n0_; have BK246 := n1_; have HO252 := n2_; have HO257 := n3_; have HO261 := n4_; have HO264 := n5_; have HO269 := n6_; have BK271 := n7_; have HB := n8_; clear n0_ n1_ n2_ n3_ n4_ n5_ n6_ n7_ n8_; (try clear hbx hg hbe)) | ((with_reducible refine Arr.gate_load (t := 42) (p := 3) rfl ?_); (try (refine gate_guard (by rfl) ?_; dsimp only)); refine Arr.loadA ?hg (T := 42) (p := 3) ?ho (g := gb246) (off := 0) ?hx (t := 42) (l := ((.bool a1_0) :: (.slice A1_1 l1_1.length c1_1) :: Arr.arL .i8 a1_2)) (m := ((.bool a1_0) :: (.slice A1_1 l1_1.length c1_1) :: Arr.arL .i8 a1_2)) (fr := (0, 0)) (show w43.heap[gb246]? = some (.cells (⟨(.bool a1_0) :: (.slice A1_1 l1_1.length c1_1) :: Arr.arL .i8 a1_2⟩ : Array Value) 42 (0, 0)) from by (with_reducible repeat (first | refine blk_drewN ?_ _ | refine blk_drew ?_ | refine blk_alloc ?_ _)); exact BK246.out) rfl Try.underlying42 rfl (n := 18) (by kernel_rfl) (by simp [Arr.arL_length]) ?_; (case hg => rfl); (case ho => rfl); (case hx => first | (go_simp; done) | rfl | (go_simp; rfl))) | ((with_reducible refine gate_callee (f := 29) rfl ?_); refine goesL_ (some 42) rfl rfl Try.func29 (by kernel_rfl) rfl #[.agg (⟨(.bool a1_0) :: (.slice A1_1 l1_1.length c1_1) :: Arr.arL .i8 a1_2⟩ : Array Value)] rfl (by (try simp only [List.map_toArray, List.map_cons, List.map_nil]); first | done | (go_simp; done) | rfl | (simp only [List.length_drop, List.length_take]; rfl)) ?_; (with_reducible refine (laws_toHalf.calls k a1_0 _ _ l1_1 a1_2 t272 t273 t276 _ ?side1 ?side2 A25.out).mono ?_); (case side1 => repeat (first | exact (Kd.C_below HR1_1.out HB.out) | (with_reducible refine Kd.C_alloc ?_ _) | (with_reducible refine Kd.C_drewN ?_ _) | (with_reducible refine Kd.C_drew ?_))); (case side2 => exact HC1_1.out); rintro e w45 ⟨v274, rfl, ho0, hb⟩; refine ⟨_, rfl, ?_⟩; have n0_ := Aside0.mk (Kd.R_elder' (by (with_reducible repeat (first | apply Kd.R_alloc | apply Kd.R_drewN | apply Kd.R_drew)); exact HO252.out) (Kd.R_base ho0) hb); have n1_ := Aside0.mk (Kd.R_elder' (by (with_reducible repeat (first | apply Kd.R_alloc | apply Kd.R_drewN | apply Kd.R_drew)); exact HO257.out) (Kd.R_base ho0) hb); have n2_ := Aside0.mk (Kd.R_below (by (with_reducible repeat (first | apply Kd.R_alloc | apply Kd.R_drewN | apply Kd.R_drew)); exact HO261.out) hb); have n3_ := Aside0.mk (Kd.R_below (by (with_reducible repeat (first | apply Kd.R_alloc | apply Kd.R_drewN | apply Kd.R_drew)); exact HO264.out) hb); have n4_ := Aside0.mk (Kd.R_elder' (by (with_reducible repeat (first | apply Kd.R_alloc | apply Kd.R_drewN | apply Kd.R_drew)); exact HO269.out) (Kd.R_base ho0) hb); have n5_ := Aside0.mk (Kd.R_lower (Kd.R_new' (Kd.R_new' (Kd.R_new' ho0 (Kd.R_lt (by (with_reducible repeat (first | apply Kd.R_alloc | apply Kd.R_drewN | apply Kd.R_drew)); exact HO252.out))) (Kd.R_lt (by (with_reducible repeat (first | apply Kd.R_alloc | apply Kd.R_drewN | apply Kd.R_drew)); exact HO257.out))) (Kd.R_lt (by (with_reducible repeat (first | apply Kd.R_alloc | apply Kd.R_drewN | apply Kd.R_drew)); exact HO269.out))) (below_size (by repeat (first | (with_reducible first | exact HB.out | apply below_alloc | apply pw_below_drewN | apply below_drew1 | refine below_set ?_ GE245.out | refine below_set ?_ GE246.out | refine below_set ?_ GE271.out) | exact HB.out)))); have n6_ := Aside0.mk (blk_below (g := gb245) (o := .cells (⟨(.bool a0_0) :: (.slice A0_1 l0_1.length c0_1) :: Arr.arL .i8 a0_2⟩ : Array Value) 42 (0, 0)) (by (with_reducible repeat (first | refine blk_drewN ?_ _ | refine blk_drew ?_ | refine blk_alloc ?_ _)); exact BK245.out) hb); have n7_ := Aside0.mk (blk_below (g := gb246) (o := .cells (⟨(.bool a1_0) :: (.slice A1_1 l1_1.length c1_1) :: Arr.arL .i8 a1_2⟩ : Array Value) 42 (0, 0)) (by (with_reducible repeat (first | refine blk_drewN ?_ _ | refine blk_drew ?_ | refine blk_alloc ?_ _)); exact BK246.out) hb); have n8_ := Aside0.mk (blk_below (g := gb271) (o := .cells (⟨(.bool t266) :: (.slice Ao44 t267.length co44) :: Arr.arL .i8 t270⟩ : Array Value) 47 (0, 0)) (by (with_reducible repeat (first | refine blk_drewN ?_ _ | refine blk_drew ?_ | refine blk_alloc ?_ _)); exact BK271.out) hb); have n9_ := Aside0.mk (below_step (by repeat (first | (with_reducible first | exact HB.out | apply below_alloc | apply pw_below_drewN | apply below_drew1 | refine below_set ?_ GE245.out | refine below_set ?_ GE246.out | refine below_set ?_ GE271.out) | exact HB.out)) hb); clear HO252; clear HO257; clear HO261; clear HO264; clear HO269; clear BK245; clear BK246; clear BK271; clear HB; have HO252 := n0_; have HO257 := n1_; have HO261 := n2_; have HO264 := n3_; have HO269 := n4_; have HO275 := n5_; have BK245 := n6_; have BK246 := n7_; have BK271 := n8_; have HB := n9_; clear n0_ n1_ n2_ n3_ n4_ n5_ n6_ n7_ n8_ n9_; (try clear hb); (try clear hb2); (try clear hk); (try clear hi); (try clear ho0)) | ((with_reducible refine gate_dst (N := 10) rfl ?_); refine box_event ?hg (N := 10) ?hd (cs := (⟨(.bool false) :: (.slice none 0 0) :: Arr.arL .i8 (Vector.replicate 16 0 : Vector Int 16)⟩ : Array Value)) (t := 47) ?hr ?_; (case hd => rfl); (case hg => rfl); (case hr => first | (go_simp; done) | (go_simp; rfl)); intro gb277 hg w46 hbox hb; have n0_ := Aside0.mk (Kd.R_below (by (with_reducible repeat (first | apply Kd.R_alloc | apply Kd.R_drewN | apply Kd.R_drew)); exact HO252.out) hb); have n1_ := Aside0.mk (Kd.R_below (by (with_reducible repeat (first | apply Kd.R_alloc | apply Kd.R_drewN | apply Kd.R_drew)); exact HO257.out) hb); have n2_ := Aside0.mk (Kd.R_below (by (with_reducible repeat (first | apply Kd.R_alloc | apply Kd.R_drewN | apply Kd.R_drew)); exact HO261.out) hb); have n3_ := Aside0.mk (Kd.R_below (by (with_reducible repeat (first | apply Kd.R_alloc | apply Kd.R_drewN | apply Kd.R_drew)); exact HO264.out) hb); have n4_ := Aside0.mk (Kd.R_below (by (with_reducible repeat (first | apply Kd.R_alloc | apply Kd.R_drewN | apply Kd.R_drew)); exact HO269.out) hb); have n5_ := Aside0.mk (Kd.R_below (by (with_reducible repeat (first | apply Kd.R_alloc | apply Kd.R_drewN | apply Kd.R_drew)); exact HO275.out) hb); have n6_ := Aside0.mk (blk_below (g := gb245) (o := .cells (⟨(.bool a0_0) :: (.slice A0_1 l0_1.length c0_1) :: Arr.arL .i8 a0_2⟩ : Array Value) 42 (0, 0)) (by (with_reducible repeat (first | refine blk_drewN ?_ _ | refine blk_drew ?_ | refine blk_alloc ?_ _)); exact BK245.out) hb); have n7_ := Aside0.mk (blk_below (g := gb246) (o := .cells (⟨(.bool a1_0) :: (.slice A1_1 l1_1.length c1_1) :: Arr.arL .i8 a1_2⟩ : Array Value) 42 (0, 0)) (by (with_reducible repeat (first | refine blk_drewN ?_ _ | refine blk_drew ?_ | refine blk_alloc ?_ _)); exact BK246.out) hb); have n8_ := Aside0.mk (blk_below (g := gb271) (o := .cells (⟨(.bool t266) :: (.slice Ao44 t267.length co44) :: Arr.arL .i8 t270⟩ : Array Value) 47 (0, 0)) (by (with_reducible repeat (first | refine blk_drewN ?_ _ | refine blk_drew ?_ | refine blk_alloc ?_ _)); exact BK271.out) hb); have n9_ := Aside0.mk (below_step (by repeat (first | (with_reducible first | exact HB.out | apply below_alloc | apply pw_below_drewN | apply below_drew1 | refine below_set ?_ GE245.out | refine below_set ?_ GE246.out | refine below_set ?_ GE271.out) | exact HB.out)) hb); have n10_ := Aside0.mk (hbox); have n11_ := Aside0.mk ((by rw [hg]; exact (below_size (by repeat (first | (with_reducible first | exact HB.out | apply below_alloc | apply pw_below_drewN | apply below_drew1 | refine below_set ?_ GE245.out | refine below_set ?_ GE246.out | refine below_set ?_ GE271.out) | exact HB.out))) : w.heap.size ≤ gb277)); have n12_ := Aside0.mk ((by rw [hg]; exact (below_size (by repeat (first | (with_reducible first | exact HB.out | apply below_alloc | apply pw_below_drewN | apply below_drew1 | refine below_set ?_ GE245.out | refine below_set ?_ GE246.out | refine below_set ?_ GE271.out) | exact HB.out))) : w.heap.size ≤ gb277)); have n13_ := Aside0.mk ((by rw [hg]; exact Nat.ne_of_lt (blk_lt (g := gb245) (o := .cells (⟨(.bool a0_0) :: (.slice A0_1 l0_1.length c0_1) :: Arr.arL .i8 a0_2⟩ : Array Value) 42 (0, 0)) (by (with_reducible repeat (first | refine blk_drewN ?_ _ | refine blk_drew ?_ | refine blk_alloc ?_ _)); exact BK245.out)) : gb245 ≠ gb277)); have n14_ := Aside0.mk ((by rw [hg]; exact Nat.ne_of_gt (blk_lt (g := gb245) (o := .cells (⟨(.bool a0_0) :: (.slice A0_1 l0_1.length c0_1) :: Arr.arL .i8 a0_2⟩ : Array Value) 42 (0, 0)) (by (with_reducible repeat (first | refine blk_drewN ?_ _ | refine blk_drew ?_ | refine blk_alloc ?_ _)); exact BK245.out)) : gb277 ≠ gb245)); have n15_ := Aside0.mk ((by rw [hg]; exact Nat.ne_of_lt (blk_lt (g := gb246) (o := .cells (⟨(.bool a1_0) :: (.slice A1_1 l1_1.length c1_1) :: Arr.arL .i8 a1_2⟩ : Array Value) 42 (0, 0)) (by (with_reducible repeat (first | refine blk_drewN ?_ _ | refine blk_drew ?_ | refine blk_alloc ?_ _)); exact BK246.out)) : gb246 ≠ gb277)); have n16_ := Aside0.mk ((by rw [hg]; exact Nat.ne_of_gt (blk_lt (g := gb246) (o := .cells (⟨(.bool a1_0) :: (.slice A1_1 l1_1.length c1_1) :: Arr.arL .i8 a1_2⟩ : Array Value) 42 (0, 0)) (by (with_reducible repeat (first | refine blk_drewN ?_ _ | refine blk_drew ?_ | refine blk_alloc ?_ _)); exact BK246.out)) : gb277 ≠ gb246)); have n17_ := Aside0.mk ((by rw [hg]; exact Nat.ne_of_lt (blk_lt (g := gb271) (o := .cells (⟨(.bool t266) :: (.slice Ao44 t267.length co44) :: Arr.arL .i8 t270⟩ : Array Value) 47 (0, 0)) (by (with_reducible repeat (first | refine blk_drewN ?_ _ | refine blk_drew ?_ | refine blk_alloc ?_ _)); exact BK271.out)) : gb271 ≠ gb277)); have n18_ := Aside0.mk ((by rw [hg]; exact Nat.ne_of_gt (blk_lt (g := gb271) (o := .cells (⟨(.bool t266) :: (.slice Ao44 t267.length co44) :: Arr.arL .i8 t270⟩ : Array Value) 47 (0, 0)) (by (with_reducible repeat (first | refine blk_drewN ?_ _ | refine blk_drew ?_ | refine blk_alloc ?_ _)); exact BK271.out)) : gb277 ≠ gb271)); clear HO252; clear HO257; clear HO261; clear HO264; clear HO269; clear HO275; clear BK245; clear BK246; clear BK271; clear HB; have HO252 := n0_; have HO257 := n1_; have HO261 := n2_; have HO264 := n3_; have HO269 := n4_; have HO275 := n5_; have BK245 := n6_; have BK246 := n7_; have BK271 := n8_; have HB := n9_; have BK277 := n10_; have GW277 := n11_; have GE277 := n12_; have NB245_277 := n13_; have NB277_245 := n14_; have NB246_277 := n15_; have NB277_246 := n16_; have NB271_277 := n17_; have NB277_271 := n18_; clear n0_ n1_ n2_ n3_ n4_ n5_ n6_ n7_ n8_ n9_ n10_ n11_ n12_ n13_ n14_ n15_ n16_ n17_ n18_; clear hb hbox hg; obtain ⟨Ao48, co48, eo48⟩ := Kd.R_slice HO275.out; subst eo48) | ((with_reducible refine gate_store (t := 47) (p := 10) rfl ?_); refine Arr.storeA ?hg (T := 47) (p := 10) (v := ?vo_w47) ?ho ?hn (g := gb277) (off := 0) ?hx (m := ((.bool t272) :: (.slice Ao48 t273.length co48) :: Arr.arL .i8 t276)) ?hy (t := 47) (pre := []) (old := ((.bool false) :: (.slice none 0 0) :: Arr.arL .i8 (Vector.replicate 16 0 : Vector Int 16))) (show w46.heap[gb277]? = some (.cells (⟨(.bool false) :: (.slice none 0 0) :: Arr.arL .i8 (Vector.replicate 16 0 : Vector Int 16)⟩ : Array Value) 47 (0, 0)) from by (with_reducible repeat (first | refine blk_drewN ?_ _ | refine blk_drew ?_ | refine blk_alloc ?_ _)); exact BK277.out) rfl (by simp [Arr.arL_length]) (n := 18) (by kernel_rfl) (by simp [Arr.arL_length]) (Arr.ones_2 rfl rfl) ?_; (case ho => rfl); (case hg => rfl); (case hn => rfl); (case hx => first | (go_simp; done) | rfl | (go_simp; rfl)); (case hy => first | (go_simp; done) | rfl | (go_simp; rfl)); intro w47 hbx hg hbe; replace hbx : w47.heap[gb277]? = some (.cells (⟨(.bool t272) :: (.slice Ao48 t273.length co48) :: Arr.arL .i8 t276⟩ : Array Value) 47 (0, 0)) := hbx; have n0_ := Aside0.mk (blk_grown (g := gb245) (o := .cells (⟨(.bool a0_0) :: (.slice A0_1 l0_1.length c0_1) :: Arr.arL .i8 a0_2⟩ : Array Value) 42 (0, 0)) (by (with_reducible repeat (first | refine blk_drewN ?_ _ | refine blk_drew ?_ | refine blk_alloc ?_ _)); exact BK245.out) hg (fun e_ => NB245_277.out (Option.some.inj e_))); have n1_ := Aside0.mk (blk_grown (g := gb246) (o := .cells (⟨(.bool a1_0) :: (.slice A1_1 l1_1.length c1_1) :: Arr.arL .i8 a1_2⟩ : Array Value) 42 (0, 0)) (by (with_reducible repeat (first | refine blk_drewN ?_ _ | refine blk_drew ?_ | refine blk_alloc ?_ _)); exact BK246.out) hg (fun e_ => NB246_277.out (Option.some.inj e_))); have n2_ := Aside0.mk (Kd.R_grown1 (by (with_reducible repeat (first | apply Kd.R_alloc | apply Kd.R_drewN | apply Kd.R_drew)); exact HO252.out) rfl hg (Kd.R_ne HO252.out BK277.out (by decide))); have n3_ := Aside0.mk (Kd.R_grown1 (by (with_reducible repeat (first | apply Kd.R_alloc | apply Kd.R_drewN | apply Kd.R_drew)); exact HO257.out) rfl hg (Kd.R_ne HO257.out BK277.out (by decide))); have n4_ := Aside0.mk (Kd.R_grown1 (by (with_reducible repeat (first | apply Kd.R_alloc | apply Kd.R_drewN | apply Kd.R_drew)); exact HO261.out) rfl hg (Kd.R_ne HO261.out BK277.out (by decide))); have n5_ := Aside0.mk (Kd.R_grown1 (by (with_reducible repeat (first | apply Kd.R_alloc | apply Kd.R_drewN | apply Kd.R_drew)); exact HO264.out) rfl hg (Kd.R_ne HO264.out BK277.out (by decide))); have n6_ := Aside0.mk (Kd.R_grown1 (by (with_reducible repeat (first | apply Kd.R_alloc | apply Kd.R_drewN | apply Kd.R_drew)); exact HO269.out) rfl hg (Kd.R_ne HO269.out BK277.out (by decide))); have n7_ := Aside0.mk (blk_grown (g := gb271) (o := .cells (⟨(.bool t266) :: (.slice Ao44 t267.length co44) :: Arr.arL .i8 t270⟩ : Array Value) 47 (0, 0)) (by (with_reducible repeat (first | refine blk_drewN ?_ _ | refine blk_drew ?_ | refine blk_alloc ?_ _)); exact BK271.out) hg (fun e_ => NB271_277.out (Option.some.inj e_))); have n8_ := Aside0.mk (Kd.R_grown1 (by (with_reducible repeat (first | apply Kd.R_alloc | apply Kd.R_drewN | apply Kd.R_drew)); exact HO275.out) rfl hg (Kd.R_ne HO275.out BK277.out (by decide))); have n9_ := Aside0.mk (hbx); have n10_ := Aside0.mk (hbe _ _ (by repeat (first | (with_reducible first | exact HB.out | apply below_alloc | apply pw_below_drewN | apply below_drew1 | refine below_set ?_ GE245.out | refine below_set ?_ GE246.out | refine below_set ?_ GE271.out | refine below_set ?_ GE277.out) | exact HB.out)) GE277.out); clear BK245; clear BK246; clear HO252; clear HO257; clear HO261; clear HO264; clear HO269; clear BK271; clear HO275; clear BK277; clear HB; have BK245 := n0_; have BK246 := n1_; have HO252 := n2_; have HO257 := n3_; have HO261 := n4_; have HO264 := n5_; have HO269 := n6_; have BK271 := n7_; have HO275 := n8_; have BK277 := n9_; have HB := n10_; clear n0_ n1_ n2_ n3_ n4_ n5_ n6_ n7_ n8_ n9_ n10_; (try clear hbx hg hbe)) | ((with_reducible refine Arr.gate_load (t := 47) (p := 9) rfl ?_); (try (refine gate_guard (by rfl) ?_; dsimp only)); refine Arr.loadA ?hg (T := 47) (p := 9) ?ho (g := gb271) (off := 0) ?hx (t := 47) (l := ((.bool t266) :: (.slice Ao44 t267.length co44) :: Arr.arL .i8 t270)) (m := ((.bool t266) :: (.slice Ao44 t267.length co44) :: Arr.arL .i8 t270)) (fr := (0, 0)) (show w47.heap[gb271]? = some (.cells (⟨(.bool t266) :: (.slice Ao44 t267.length co44) :: Arr.arL .i8 t270⟩ : Array Value) 47 (0, 0)) from by (with_reducible repeat (first | refine blk_drewN ?_ _ | refine blk_drew ?_ | refine blk_alloc ?_ _)); exact BK271.out) rfl Try.underlying47 rfl (n := 18) (by kernel_rfl) (by simp [Arr.arL_length]) ?_; (case hg => rfl); (case ho => rfl); (case hx => first | (go_simp; done) | rfl | (go_simp; rfl))) | ((with_reducible refine Arr.gate_load (t := 47) (p := 10) rfl ?_); (try (refine gate_guard (by rfl) ?_; dsimp only)); refine Arr.loadA ?hg (T := 47) (p := 10) ?ho (g := gb277) (off := 0) ?hx (t := 47) (l := ((.bool t272) :: (.slice Ao48 t273.length co48) :: Arr.arL .i8 t276)) (m := ((.bool t272) :: (.slice Ao48 t273.length co48) :: Arr.arL .i8 t276)) (fr := (0, 0)) (show w47.heap[gb277]? = some (.cells (⟨(.bool t272) :: (.slice Ao48 t273.length co48) :: Arr.arL .i8 t276⟩ : Array Value) 47 (0, 0)) from by (with_reducible repeat (first | refine blk_drewN ?_ _ | refine blk_drew ?_ | refine blk_alloc ?_ _)); exact BK277.out) rfl Try.underlying47 rfl (n := 18) (by kernel_rfl) (by simp [Arr.arL_length]) ?_; (case hg => rfl); (case ho => rfl); (case hx => first | (go_simp; done) | rfl | (go_simp; rfl))) | ((with_reducible refine gate_callee (f := 43) rfl ?_); refine goesL_ (some 46) rfl rfl Try.func43 (by kernel_rfl) rfl #[.agg (⟨(.bool t266) :: (.slice Ao44 t267.length co44) :: Arr.arL .i8 t270⟩ : Array Value), .agg (⟨(.bool t272) :: (.slice Ao48 t273.length co48) :: Arr.arL .i8 t276⟩ : Array Value)] rfl (by (try simp only [List.map_toArray, List.map_cons, List.map_nil]); first | done | (go_simp; done) | rfl | (simp only [List.length_drop, List.length_take]; rfl)) ?_; (with_reducible refine (impl_MisfitsOf.calls k t266 _ _ t267 t270 t272 _ _ t273 t276 t278 t281 t284 _ ?side1 ?side2 ?side3 ?side4 A29.out).mono ?_); (case side1 => repeat (first | exact (Kd.R_reads' HO269.out).2.2 | (with_reducible refine Kd.C_alloc ?_ _) | (with_reducible refine Kd.C_drewN ?_ _) | (with_reducible refine Kd.C_drew ?_))); (case side2 => exact (Kd.R_reads' HO269.out).2.1); (case side3 => repeat (first | exact (Kd.R_reads' HO275.out).2.2 | (with_reducible refine Kd.C_alloc ?_ _) | (with_reducible refine Kd.C_drewN ?_ _) | (with_reducible refine Kd.C_drew ?_))); (case side4 => exact (Kd.R_reads' HO275.out).2.1); rintro e w49 ⟨v279, v282, rfl, ho0, ho1, hb⟩; refine ⟨_, rfl, ?_⟩; have n0_ := Aside0.mk (Kd.R_below (by (with_reducible repeat (first | apply Kd.R_alloc | apply Kd.R_drewN | apply Kd.R_drew)); exact HO252.out) hb); have n1_ := Aside0.mk (Kd.R_below (by (with_reducible repeat (first | apply Kd.R_alloc | apply Kd.R_drewN | apply Kd.R_drew)); exact HO257.out) hb); have n2_ := Aside0.mk (Kd.R_mono (Kd.R_told (Kd.R_told (Kd.R_old (by (with_reducible repeat (first | apply Kd.R_alloc | apply Kd.R_drewN | apply Kd.R_drew)); exact HO261.out) hb) (Kd.R_base ho0)) (Kd.R_base ho1)) (fun _ h_ => h_.1)); have n3_ := Aside0.mk (Kd.R_mono (Kd.R_told (Kd.R_told (Kd.R_old (by (with_reducible repeat (first | apply Kd.R_alloc | apply Kd.R_drewN | apply Kd.R_drew)); exact HO264.out) hb) (Kd.R_base ho0)) (Kd.R_base ho1)) (fun _ h_ => h_.1)); have n4_ := Aside0.mk (Kd.R_below (by (with_reducible repeat (first | apply Kd.R_alloc | apply Kd.R_drewN | apply Kd.R_drew)); exact HO269.out) hb); have n5_ := Aside0.mk (Kd.R_below (by (with_reducible repeat (first | apply Kd.R_alloc | apply Kd.R_drewN | apply Kd.R_drew)); exact HO275.out) hb); have n6_ := Aside0.mk (Kd.R_lower (Kd.R_new' (Kd.R_new' ho0 (Kd.R_lt (by (with_reducible repeat (first | apply Kd.R_alloc | apply Kd.R_drewN | apply Kd.R_drew)); exact HO261.out))) (Kd.R_lt (by (with_reducible repeat (first | apply Kd.R_alloc | apply Kd.R_drewN | apply Kd.R_drew)); exact HO264.out))) (below_size (by repeat (first | (with_reducible first | exact HB.out | apply below_alloc | apply pw_below_drewN | apply below_drew1 | refine below_set ?_ GE245.out | refine below_set ?_ GE246.out | refine below_set ?_ GE271.out | refine below_set ?_ GE277.out) | exact HB.out)))); have n7_ := Aside0.mk (Kd.R_lower (Kd.R_new' (Kd.R_new' ho1 (Kd.R_lt (by (with_reducible repeat (first | apply Kd.R_alloc | apply Kd.R_drewN | apply Kd.R_drew)); exact HO261.out))) (Kd.R_lt (by (with_reducible repeat (first | apply Kd.R_alloc | apply Kd.R_drewN | apply Kd.R_drew)); exact HO264.out))) (below_size (by repeat (first | (with_reducible first | exact HB.out | apply below_alloc | apply pw_below_drewN | apply below_drew1 | refine below_set ?_ GE245.out | refine below_set ?_ GE246.out | refine below_set ?_ GE271.out | refine below_set ?_ GE277.out) | exact HB.out)))); have n8_ := Aside0.mk (blk_below (g := gb245) (o := .cells (⟨(.bool a0_0) :: (.slice A0_1 l0_1.length c0_1) :: Arr.arL .i8 a0_2⟩ : Array Value) 42 (0, 0)) (by (with_reducible repeat (first | refine blk_drewN ?_ _ | refine blk_drew ?_ | refine blk_alloc ?_ _)); exact BK245.out) hb); have n9_ := Aside0.mk (blk_below (g := gb246) (o := .cells (⟨(.bool a1_0) :: (.slice A1_1 l1_1.length c1_1) :: Arr.arL .i8 a1_2⟩ : Array Value) 42 (0, 0)) (by (with_reducible repeat (first | refine blk_drewN ?_ _ | refine blk_drew ?_ | refine blk_alloc ?_ _)); exact BK246.out) hb); have n10_ := Aside0.mk (blk_below (g := gb271) (o := .cells (⟨(.bool t266) :: (.slice Ao44 t267.length co44) :: Arr.arL .i8 t270⟩ : Array Value) 47 (0, 0)) (by (with_reducible repeat (first | refine blk_drewN ?_ _ | refine blk_drew ?_ | refine blk_alloc ?_ _)); exact BK271.out) hb); have n11_ := Aside0.mk (blk_below (g := gb277) (o := .cells (⟨(.bool t272) :: (.slice Ao48 t273.length co48) :: Arr.arL .i8 t276⟩ : Array Value) 47 (0, 0)) (by (with_reducible repeat (first | refine blk_drewN ?_ _ | refine blk_drew ?_ | refine blk_alloc ?_ _)); exact BK277.out) hb); have n12_ := Aside0.mk (below_step (by repeat (first | (with_reducible first | exact HB.out | apply below_alloc | apply pw_below_drewN | apply below_drew1 | refine below_set ?_ GE245.out | refine below_set ?_ GE246.out | refine below_set ?_ GE271.out | refine below_set ?_ GE277.out) | exact HB.out)) hb); clear HO252; clear HO257; clear HO261; clear HO264; clear HO269; clear HO275; clear BK245; clear BK246; clear BK271; clear BK277; clear HB; have HO252 := n0_; have HO257 := n1_; have HO261 := n2_; have HO264 := n3_; have HO269 := n4_; have HO275 := n5_; have HO280 := n6_; have HO283 := n7_; have BK245 := n8_; have BK246 := n9_; have BK271 := n10_; have BK277 := n11_; have HB := n12_; clear n0_ n1_ n2_ n3_ n4_ n5_ n6_ n7_ n8_ n9_ n10_ n11_ n12_; (try clear hb); (try clear hb2); (try clear hk); (try clear hi); (try clear ho0); (try clear ho1)))
  (try simp only [Act.put, List.setIfInBounds_toArray, List.set_cons_zero, List.set_cons_succ])
  go_cut [64] (fun v64 wc => ∃ (kq : Nat) (x64_29 : Bool), v64 = .bool x64_29 ∧ Aside0 (laws_FnExactMisfitsOf.j0 kq t259 t262 t265 t278 t281 t284 x64_29 a0_0 l0_1 a0_2 a1_0 l1_1 a1_2 t266 t267 t270 t272 t273 t276 = some r) ∧ Aside0 (kq ≤ k) ∧ Aside0 (Kd.R (Kd.int .i64) 2 wc w.heap.size (fun k_ => some k_ ≠ (v263 : Value).ownBlock ∧ some k_ ≠ (v279 : Value).ownBlock ∧ some k_ ≠ (v282 : Value).ownBlock) v260 t259) ∧ Aside0 (Kd.R (Kd.int .i64) 2 wc w.heap.size (fun k_ => some k_ ≠ (v260 : Value).ownBlock ∧ some k_ ≠ (v279 : Value).ownBlock ∧ some k_ ≠ (v282 : Value).ownBlock) v263 t262) ∧ Aside0 (Kd.R (Kd.int .i64) 2 wc w.heap.size (fun k_ => some k_ ≠ (v260 : Value).ownBlock ∧ some k_ ≠ (v263 : Value).ownBlock ∧ some k_ ≠ (v282 : Value).ownBlock) v279 t278) ∧ Aside0 (Kd.R (Kd.int .i64) 2 wc w.heap.size (fun k_ => some k_ ≠ (v260 : Value).ownBlock ∧ some k_ ≠ (v263 : Value).ownBlock ∧ some k_ ≠ (v279 : Value).ownBlock) v282 t281) ∧ Aside0 (Kd.R k77 77 wc w.heap.size (fun k_ => some k_ ≠ ((.slice Ao48 t273.length co48) : Value).ownBlock) (.slice Ao44 t267.length co44) t267) ∧ Aside0 (Kd.R k77 77 wc w.heap.size (fun k_ => some k_ ≠ ((.slice Ao44 t267.length co44) : Value).ownBlock) (.slice Ao48 t273.length co48) t273) ∧ Aside0 (wc.heap[gb245]? = some (.cells (⟨(.bool a0_0) :: ((.slice A0_1 l0_1.length c0_1)) :: Arr.arL .i8 a0_2⟩ : Array Value) 42 (0, 0))) ∧ Aside0 (wc.heap[gb246]? = some (.cells (⟨(.bool a1_0) :: ((.slice A1_1 l1_1.length c1_1)) :: Arr.arL .i8 a1_2⟩ : Array Value) 42 (0, 0))) ∧ Aside0 (wc.heap[gb271]? = some (.cells (⟨(.bool t266) :: ((.slice Ao44 t267.length co44)) :: Arr.arL .i8 t270⟩ : Array Value) 47 (0, 0))) ∧ Aside0 (wc.heap[gb277]? = some (.cells (⟨(.bool t272) :: ((.slice Ao48 t273.length co48)) :: Arr.arL .i8 t276⟩ : Array Value) 47 (0, 0))) ∧ Aside0 (Below w.heap.size w wc))
  case first =>
    have H := HC30.out
    clear HC30
    replace H := Option.bind_eq_some_iff.mp H
    obtain ⟨t285, A500, H⟩ := H
    replace H : (if t285 = true then ((laws_eqInt64S.f k t281 t262).bind fun t286 => (if t286 = true then (laws_FnExactMisfitsOf.j0 k t259 t262 t265 t278 t281 t284 (t284 != t265) a0_0 l0_1 a0_2 a1_0 l1_1 a1_2 t266 t267 t270 t272 t273 t276) else (laws_FnExactMisfitsOf.j0 k t259 t262 t265 t278 t281 t284 true a0_0 l0_1 a0_2 a1_0 l1_1 a1_2 t266 t267 t270 t272 t273 t276))) else (laws_FnExactMisfitsOf.j0 k t259 t262 t265 t278 t281 t284 true a0_0 l0_1 a0_2 a1_0 l1_1 a1_2 t266 t267 t270 t272 t273 t276)) = some r := H
    have A50 := Aside0.mk A500
    clear A500
    by_cases c51 : t285 = true
    · subst c51
      have H1 : ((laws_eqInt64S.f k t281 t262).bind fun t286 => (if t286 = true then (laws_FnExactMisfitsOf.j0 k t259 t262 t265 t278 t281 t284 (t284 != t265) a0_0 l0_1 a0_2 a1_0 l1_1 a1_2 t266 t267 t270 t272 t273 t276) else (laws_FnExactMisfitsOf.j0 k t259 t262 t265 t278 t281 t284 true a0_0 l0_1 a0_2 a1_0 l1_1 a1_2 t266 t267 t270 t272 t273 t276))) = some r := by rw [if_pos rfl] at H; exact H
      clear H
      have H := H1
      clear H1
      replace H := Option.bind_eq_some_iff.mp H
      obtain ⟨t286, A520, H⟩ := H
      replace H : (if t286 = true then (laws_FnExactMisfitsOf.j0 k t259 t262 t265 t278 t281 t284 (t284 != t265) a0_0 l0_1 a0_2 a1_0 l1_1 a1_2 t266 t267 t270 t272 t273 t276) else (laws_FnExactMisfitsOf.j0 k t259 t262 t265 t278 t281 t284 true a0_0 l0_1 a0_2 a1_0 l1_1 a1_2 t266 t267 t270 t272 t273 t276)) = some r := H
      have A52 := Aside0.mk A520
      clear A520
      by_cases c53 : t286 = true
      · subst c53
        have H1 : (laws_FnExactMisfitsOf.j0 k t259 t262 t265 t278 t281 t284 (t284 != t265) a0_0 l0_1 a0_2 a1_0 l1_1 a1_2 t266 t267 t270 t272 t273 t276) = some r := by rw [if_pos rfl] at H; exact H
        clear H
        have H := H1
        clear H1
        have H' := Aside0.mk H
        clear H
        obtain ⟨Ao54, co54, eo54⟩ := Kd.R_slice HO280.out
        subst eo54
        obtain ⟨Ao55, co55, eo55⟩ := Kd.R_slice HO261.out
        subst eo55
        go_wp2_with (first | ((with_reducible refine gate_callee (f := 44) rfl ?_); refine goesL_ (some 52) rfl rfl Try.func44 (by kernel_rfl) rfl #[.slice Ao54 t278.length co54, .slice Ao55 t259.length co55] rfl (by (try simp only [List.map_toArray, List.map_cons, List.map_nil]); first | done | (go_simp; done) | rfl | (simp only [List.length_drop, List.length_take]; rfl)) ?_; (with_reducible refine (laws_eqInt64S.calls k _ _ t278 _ _ t259 true _ ?side1 ?side2 ?side3 ?side4 A50.out).mono ?_); (case side1 => repeat (first | exact (Kd.R_reads' HO280.out).2.2 | (with_reducible refine Kd.C_alloc ?_ _) | (with_reducible refine Kd.C_drewN ?_ _) | (with_reducible refine Kd.C_drew ?_))); (case side2 => exact (Kd.R_reads' HO280.out).2.1); (case side3 => repeat (first | exact (Kd.R_reads' HO261.out).2.2 | (with_reducible refine Kd.C_alloc ?_ _) | (with_reducible refine Kd.C_drewN ?_ _) | (with_reducible refine Kd.C_drew ?_))); (case side4 => exact (Kd.R_reads' HO261.out).2.1); rintro e w' ⟨rfl, ⟨nd, rfl⟩⟩; refine ⟨_, rfl, ?_⟩; obtain ⟨Ao56, co56, eo56⟩ := Kd.R_slice HO283.out; subst eo56; obtain ⟨Ao57, co57, eo57⟩ := Kd.R_slice HO264.out; subst eo57) | (go_at_call 44; (with_reducible refine (laws_eqInt64S.calls k _ _ t281 _ _ t262 true _ ?side1 ?side2 ?side3 ?side4 A52.out).mono ?_); (case side1 => repeat (first | exact (Kd.R_reads' HO283.out).2.2 | (with_reducible refine Kd.C_alloc ?_ _) | (with_reducible refine Kd.C_drewN ?_ _) | (with_reducible refine Kd.C_drew ?_))); (case side2 => exact (Kd.R_reads' HO283.out).2.1); (case side3 => repeat (first | exact (Kd.R_reads' HO264.out).2.2 | (with_reducible refine Kd.C_alloc ?_ _) | (with_reducible refine Kd.C_drewN ?_ _) | (with_reducible refine Kd.C_drew ?_))); (case side4 => exact (Kd.R_reads' HO264.out).2.1); rintro e w' ⟨rfl, ⟨nd, rfl⟩⟩))
        go_meet
        case rel => exact ⟨_, ((t284 != t265)), (by first | rfl | (simp; done) | (simp [*]; done)), H', ⟨by first | omega | exact Nat.le_refl _⟩, ⟨by (with_reducible repeat (first | apply Kd.R_alloc | apply Kd.R_drewN | apply Kd.R_drew)); exact Kd.R_mono HO261.out (fun _ hk => ⟨hk.1.1, ⟨hk.1.2, hk.2⟩⟩)⟩, ⟨by (with_reducible repeat (first | apply Kd.R_alloc | apply Kd.R_drewN | apply Kd.R_drew)); exact Kd.R_mono HO264.out (fun _ hk => ⟨hk.1.1, ⟨hk.1.2, hk.2⟩⟩)⟩, ⟨by (with_reducible repeat (first | apply Kd.R_alloc | apply Kd.R_drewN | apply Kd.R_drew)); exact Kd.R_mono HO280.out (fun _ hk => ⟨hk.1.2, ⟨hk.2, hk.1.1⟩⟩)⟩, ⟨by (with_reducible repeat (first | apply Kd.R_alloc | apply Kd.R_drewN | apply Kd.R_drew)); exact Kd.R_mono HO283.out (fun _ hk => ⟨hk.1.2, ⟨hk.2, hk.1.1⟩⟩)⟩, ⟨by (with_reducible repeat (first | apply Kd.R_alloc | apply Kd.R_drewN | apply Kd.R_drew)); exact Kd.R_mono HO269.out (fun _ hk => hk.2)⟩, ⟨by (with_reducible repeat (first | apply Kd.R_alloc | apply Kd.R_drewN | apply Kd.R_drew)); exact Kd.R_mono HO275.out (fun _ hk => hk.2)⟩, ⟨by (with_reducible repeat (first | refine blk_drewN ?_ _ | refine blk_drew ?_ | refine blk_alloc ?_ _)); exact BK245.out⟩, ⟨by (with_reducible repeat (first | refine blk_drewN ?_ _ | refine blk_drew ?_ | refine blk_alloc ?_ _)); exact BK246.out⟩, ⟨by (with_reducible repeat (first | refine blk_drewN ?_ _ | refine blk_drew ?_ | refine blk_alloc ?_ _)); exact BK271.out⟩, ⟨by (with_reducible repeat (first | refine blk_drewN ?_ _ | refine blk_drew ?_ | refine blk_alloc ?_ _)); exact BK277.out⟩, ⟨by repeat (first | (with_reducible first | exact HB.out | apply below_alloc | apply pw_below_drewN | apply below_drew1 | refine below_set ?_ GE245.out | refine below_set ?_ GE246.out | refine below_set ?_ GE271.out | refine below_set ?_ GE277.out) | exact HB.out)⟩⟩
      · replace c53 := Bool.eq_false_iff.mpr c53
        subst c53
        have H1 : (laws_FnExactMisfitsOf.j0 k t259 t262 t265 t278 t281 t284 true a0_0 l0_1 a0_2 a1_0 l1_1 a1_2 t266 t267 t270 t272 t273 t276) = some r := by rw [if_neg (show ¬ (false = true) by decide)] at H; exact H
        clear H
        have H := H1
        clear H1
        have H' := Aside0.mk H
        clear H
        obtain ⟨Ao58, co58, eo58⟩ := Kd.R_slice HO280.out
        subst eo58
        obtain ⟨Ao59, co59, eo59⟩ := Kd.R_slice HO261.out
        subst eo59
        go_wp2_with (first | ((with_reducible refine gate_callee (f := 44) rfl ?_); refine goesL_ (some 52) rfl rfl Try.func44 (by kernel_rfl) rfl #[.slice Ao58 t278.length co58, .slice Ao59 t259.length co59] rfl (by (try simp only [List.map_toArray, List.map_cons, List.map_nil]); first | done | (go_simp; done) | rfl | (simp only [List.length_drop, List.length_take]; rfl)) ?_; (with_reducible refine (laws_eqInt64S.calls k _ _ t278 _ _ t259 true _ ?side1 ?side2 ?side3 ?side4 A50.out).mono ?_); (case side1 => repeat (first | exact (Kd.R_reads' HO280.out).2.2 | (with_reducible refine Kd.C_alloc ?_ _) | (with_reducible refine Kd.C_drewN ?_ _) | (with_reducible refine Kd.C_drew ?_))); (case side2 => exact (Kd.R_reads' HO280.out).2.1); (case side3 => repeat (first | exact (Kd.R_reads' HO261.out).2.2 | (with_reducible refine Kd.C_alloc ?_ _) | (with_reducible refine Kd.C_drewN ?_ _) | (with_reducible refine Kd.C_drew ?_))); (case side4 => exact (Kd.R_reads' HO261.out).2.1); rintro e w' ⟨rfl, ⟨nd, rfl⟩⟩; refine ⟨_, rfl, ?_⟩; obtain ⟨Ao60, co60, eo60⟩ := Kd.R_slice HO283.out; subst eo60; obtain ⟨Ao61, co61, eo61⟩ := Kd.R_slice HO264.out; subst eo61) | (go_at_call 44; (with_reducible refine (laws_eqInt64S.calls k _ _ t281 _ _ t262 false _ ?side1 ?side2 ?side3 ?side4 A52.out).mono ?_); (case side1 => repeat (first | exact (Kd.R_reads' HO283.out).2.2 | (with_reducible refine Kd.C_alloc ?_ _) | (with_reducible refine Kd.C_drewN ?_ _) | (with_reducible refine Kd.C_drew ?_))); (case side2 => exact (Kd.R_reads' HO283.out).2.1); (case side3 => repeat (first | exact (Kd.R_reads' HO264.out).2.2 | (with_reducible refine Kd.C_alloc ?_ _) | (with_reducible refine Kd.C_drewN ?_ _) | (with_reducible refine Kd.C_drew ?_))); (case side4 => exact (Kd.R_reads' HO264.out).2.1); rintro e w' ⟨rfl, ⟨nd, rfl⟩⟩))
        go_meet
        case rel => exact ⟨_, (true), (by first | rfl | (simp; done) | (simp [*]; done)), H', ⟨by first | omega | exact Nat.le_refl _⟩, ⟨by (with_reducible repeat (first | apply Kd.R_alloc | apply Kd.R_drewN | apply Kd.R_drew)); exact Kd.R_mono HO261.out (fun _ hk => ⟨hk.1.1, ⟨hk.1.2, hk.2⟩⟩)⟩, ⟨by (with_reducible repeat (first | apply Kd.R_alloc | apply Kd.R_drewN | apply Kd.R_drew)); exact Kd.R_mono HO264.out (fun _ hk => ⟨hk.1.1, ⟨hk.1.2, hk.2⟩⟩)⟩, ⟨by (with_reducible repeat (first | apply Kd.R_alloc | apply Kd.R_drewN | apply Kd.R_drew)); exact Kd.R_mono HO280.out (fun _ hk => ⟨hk.1.2, ⟨hk.2, hk.1.1⟩⟩)⟩, ⟨by (with_reducible repeat (first | apply Kd.R_alloc | apply Kd.R_drewN | apply Kd.R_drew)); exact Kd.R_mono HO283.out (fun _ hk => ⟨hk.1.2, ⟨hk.2, hk.1.1⟩⟩)⟩, ⟨by (with_reducible repeat (first | apply Kd.R_alloc | apply Kd.R_drewN | apply Kd.R_drew)); exact Kd.R_mono HO269.out (fun _ hk => hk.2)⟩, ⟨by (with_reducible repeat (first | apply Kd.R_alloc | apply Kd.R_drewN | apply Kd.R_drew)); exact Kd.R_mono HO275.out (fun _ hk => hk.2)⟩, ⟨by (with_reducible repeat (first | refine blk_drewN ?_ _ | refine blk_drew ?_ | refine blk_alloc ?_ _)); exact BK245.out⟩, ⟨by (with_reducible repeat (first | refine blk_drewN ?_ _ | refine blk_drew ?_ | refine blk_alloc ?_ _)); exact BK246.out⟩, ⟨by (with_reducible repeat (first | refine blk_drewN ?_ _ | refine blk_drew ?_ | refine blk_alloc ?_ _)); exact BK271.out⟩, ⟨by (with_reducible repeat (first | refine blk_drewN ?_ _ | refine blk_drew ?_ | refine blk_alloc ?_ _)); exact BK277.out⟩, ⟨by repeat (first | (with_reducible first | exact HB.out | apply below_alloc | apply pw_below_drewN | apply below_drew1 | refine below_set ?_ GE245.out | refine below_set ?_ GE246.out | refine below_set ?_ GE271.out | refine below_set ?_ GE277.out) | exact HB.out)⟩⟩
    · replace c51 := Bool.eq_false_iff.mpr c51
      subst c51
      have H1 : (laws_FnExactMisfitsOf.j0 k t259 t262 t265 t278 t281 t284 true a0_0 l0_1 a0_2 a1_0 l1_1 a1_2 t266 t267 t270 t272 t273 t276) = some r := by rw [if_neg (show ¬ (false = true) by decide)] at H; exact H
      clear H
      have H := H1
      clear H1
      have H' := Aside0.mk H
      clear H
      obtain ⟨Ao62, co62, eo62⟩ := Kd.R_slice HO280.out
      subst eo62
      obtain ⟨Ao63, co63, eo63⟩ := Kd.R_slice HO261.out
      subst eo63
      go_wp2_with (first | ((with_reducible refine gate_callee (f := 44) rfl ?_); refine goesL_ (some 52) rfl rfl Try.func44 (by kernel_rfl) rfl #[.slice Ao62 t278.length co62, .slice Ao63 t259.length co63] rfl (by (try simp only [List.map_toArray, List.map_cons, List.map_nil]); first | done | (go_simp; done) | rfl | (simp only [List.length_drop, List.length_take]; rfl)) ?_; (with_reducible refine (laws_eqInt64S.calls k _ _ t278 _ _ t259 false _ ?side1 ?side2 ?side3 ?side4 A50.out).mono ?_); (case side1 => repeat (first | exact (Kd.R_reads' HO280.out).2.2 | (with_reducible refine Kd.C_alloc ?_ _) | (with_reducible refine Kd.C_drewN ?_ _) | (with_reducible refine Kd.C_drew ?_))); (case side2 => exact (Kd.R_reads' HO280.out).2.1); (case side3 => repeat (first | exact (Kd.R_reads' HO261.out).2.2 | (with_reducible refine Kd.C_alloc ?_ _) | (with_reducible refine Kd.C_drewN ?_ _) | (with_reducible refine Kd.C_drew ?_))); (case side4 => exact (Kd.R_reads' HO261.out).2.1); rintro e w' ⟨rfl, ⟨nd, rfl⟩⟩; refine ⟨_, rfl, ?_⟩))
      go_meet
      case rel => exact ⟨_, (true), (by first | rfl | (simp; done) | (simp [*]; done)), H', ⟨by first | omega | exact Nat.le_refl _⟩, ⟨by (with_reducible repeat (first | apply Kd.R_alloc | apply Kd.R_drewN | apply Kd.R_drew)); exact Kd.R_mono HO261.out (fun _ hk => ⟨hk.1.1, ⟨hk.1.2, hk.2⟩⟩)⟩, ⟨by (with_reducible repeat (first | apply Kd.R_alloc | apply Kd.R_drewN | apply Kd.R_drew)); exact Kd.R_mono HO264.out (fun _ hk => ⟨hk.1.1, ⟨hk.1.2, hk.2⟩⟩)⟩, ⟨by (with_reducible repeat (first | apply Kd.R_alloc | apply Kd.R_drewN | apply Kd.R_drew)); exact Kd.R_mono HO280.out (fun _ hk => ⟨hk.1.2, ⟨hk.2, hk.1.1⟩⟩)⟩, ⟨by (with_reducible repeat (first | apply Kd.R_alloc | apply Kd.R_drewN | apply Kd.R_drew)); exact Kd.R_mono HO283.out (fun _ hk => ⟨hk.1.2, ⟨hk.2, hk.1.1⟩⟩)⟩, ⟨by (with_reducible repeat (first | apply Kd.R_alloc | apply Kd.R_drewN | apply Kd.R_drew)); exact Kd.R_mono HO269.out (fun _ hk => hk.2)⟩, ⟨by (with_reducible repeat (first | apply Kd.R_alloc | apply Kd.R_drewN | apply Kd.R_drew)); exact Kd.R_mono HO275.out (fun _ hk => hk.2)⟩, ⟨by (with_reducible repeat (first | refine blk_drewN ?_ _ | refine blk_drew ?_ | refine blk_alloc ?_ _)); exact BK245.out⟩, ⟨by (with_reducible repeat (first | refine blk_drewN ?_ _ | refine blk_drew ?_ | refine blk_alloc ?_ _)); exact BK246.out⟩, ⟨by (with_reducible repeat (first | refine blk_drewN ?_ _ | refine blk_drew ?_ | refine blk_alloc ?_ _)); exact BK271.out⟩, ⟨by (with_reducible repeat (first | refine blk_drewN ?_ _ | refine blk_drew ?_ | refine blk_alloc ?_ _)); exact BK277.out⟩, ⟨by repeat (first | (with_reducible first | exact HB.out | apply below_alloc | apply pw_below_drewN | apply below_drew1 | refine below_set ?_ GE245.out | refine below_set ?_ GE246.out | refine below_set ?_ GE271.out | refine below_set ?_ GE277.out) | exact HB.out)⟩⟩
  case rest =>
    clear HC30
    try clear c1
    try clear c2
    try clear p2
    try clear c4
    try clear c5
    try clear c5b0
    try clear c11
    try clear c11b0
    try clear c14
    try clear c27
    try clear c29
    try clear c42
    try clear c43
    try clear c44
    try clear c51
    try clear c53
    obtain ⟨kq, x64_29, rfl, HA, HJ29, HO_6, HO_7, HO_11, HO_12, HO_272001, HO_278001, BK245, BK246, BK271, BK277, HB⟩ := hcut
    cases kq with
    | zero => exact absurd HA.out (by simp [laws_FnExactMisfitsOf.j0])
    | succ kj29 =>
      have H := HA.out
      clear HA
      simp only [laws_FnExactMisfitsOf.j0] at H
      by_cases c64 : x64_29 = true
      · subst c64
        have H1 : (some false) = some r := by rw [if_pos rfl] at H; exact H
        clear H
        have H := H1
        clear H1
        obtain rfl := Option.some.inj H
        cases ht
      · replace c64 := Bool.eq_false_iff.mpr c64
        subst c64
        have H1 : ((laws_toHalf.f kj29 a0_0 l0_1 a0_2).bind fun bt287 => ((laws_eqHalf.f kj29 t266 t267 t270 bt287.1 bt287.2.1 bt287.2.2).bind fun t292 => (if t292 = true then ((laws_toHalf.f kj29 a1_0 l1_1 a1_2).bind fun bt293 => ((laws_eqHalf.f kj29 t272 t273 t276 bt293.1 bt293.2.1 bt293.2.2).bind fun t298 => (if t298 = true then ((laws_markHalf.f kj29 t266 t267 t270 1).bind fun bt299 => ((laws_markHalf.f kj29 t272 t273 t276 bt299.1).bind fun bt301 => (if bt301.1 < 0 then (laws_FnExactMisfitsOf.j1 kj29 t259 t262 t265 t278 t281 true a0_0 l0_1 a0_2 a1_0 l1_1 a1_2) else ((laws_eqInt64S.f kj29 t278 t259).bind fun t303 => (if t303 = true then ((laws_eqInt64S.f kj29 t281 t262).bind fun t304 => (if t304 = true then (laws_FnExactMisfitsOf.j1 kj29 t259 t262 t265 t278 t281 (t284 != t265) a0_0 l0_1 a0_2 a1_0 l1_1 a1_2) else (laws_FnExactMisfitsOf.j1 kj29 t259 t262 t265 t278 t281 true a0_0 l0_1 a0_2 a1_0 l1_1 a1_2))) else (laws_FnExactMisfitsOf.j1 kj29 t259 t262 t265 t278 t281 true a0_0 l0_1 a0_2 a1_0 l1_1 a1_2)))))) else (some false)))) else (some false)))) = some r := by rw [if_neg (show ¬ (false = true) by decide)] at H; exact H
        clear H
        have H := H1
        clear H1
        replace H := Option.bind_eq_some_iff.mp H
        obtain ⟨⟨t287, t288, t291⟩, A670, H⟩ := H
        replace H : ((laws_eqHalf.f kj29 t266 t267 t270 t287 t288 t291).bind fun t292 => (if t292 = true then ((laws_toHalf.f kj29 a1_0 l1_1 a1_2).bind fun bt293 => ((laws_eqHalf.f kj29 t272 t273 t276 bt293.1 bt293.2.1 bt293.2.2).bind fun t298 => (if t298 = true then ((laws_markHalf.f kj29 t266 t267 t270 1).bind fun bt299 => ((laws_markHalf.f kj29 t272 t273 t276 bt299.1).bind fun bt301 => (if bt301.1 < 0 then (laws_FnExactMisfitsOf.j1 kj29 t259 t262 t265 t278 t281 true a0_0 l0_1 a0_2 a1_0 l1_1 a1_2) else ((laws_eqInt64S.f kj29 t278 t259).bind fun t303 => (if t303 = true then ((laws_eqInt64S.f kj29 t281 t262).bind fun t304 => (if t304 = true then (laws_FnExactMisfitsOf.j1 kj29 t259 t262 t265 t278 t281 (t284 != t265) a0_0 l0_1 a0_2 a1_0 l1_1 a1_2) else (laws_FnExactMisfitsOf.j1 kj29 t259 t262 t265 t278 t281 true a0_0 l0_1 a0_2 a1_0 l1_1 a1_2))) else (laws_FnExactMisfitsOf.j1 kj29 t259 t262 t265 t278 t281 true a0_0 l0_1 a0_2 a1_0 l1_1 a1_2)))))) else (some false)))) else (some false))) = some r := H
        have A67 := Aside0.mk A670
        clear A670
        replace H := Option.bind_eq_some_iff.mp H
        obtain ⟨t292, A680, H⟩ := H
        replace H : (if t292 = true then ((laws_toHalf.f kj29 a1_0 l1_1 a1_2).bind fun bt293 => ((laws_eqHalf.f kj29 t272 t273 t276 bt293.1 bt293.2.1 bt293.2.2).bind fun t298 => (if t298 = true then ((laws_markHalf.f kj29 t266 t267 t270 1).bind fun bt299 => ((laws_markHalf.f kj29 t272 t273 t276 bt299.1).bind fun bt301 => (if bt301.1 < 0 then (laws_FnExactMisfitsOf.j1 kj29 t259 t262 t265 t278 t281 true a0_0 l0_1 a0_2 a1_0 l1_1 a1_2) else ((laws_eqInt64S.f kj29 t278 t259).bind fun t303 => (if t303 = true then ((laws_eqInt64S.f kj29 t281 t262).bind fun t304 => (if t304 = true then (laws_FnExactMisfitsOf.j1 kj29 t259 t262 t265 t278 t281 (t284 != t265) a0_0 l0_1 a0_2 a1_0 l1_1 a1_2) else (laws_FnExactMisfitsOf.j1 kj29 t259 t262 t265 t278 t281 true a0_0 l0_1 a0_2 a1_0 l1_1 a1_2))) else (laws_FnExactMisfitsOf.j1 kj29 t259 t262 t265 t278 t281 true a0_0 l0_1 a0_2 a1_0 l1_1 a1_2)))))) else (some false)))) else (some false)) = some r := H
        have A68 := Aside0.mk A680
        clear A680
        by_cases c69 : t292 = true
        · subst c69
          have H1 : ((laws_toHalf.f kj29 a1_0 l1_1 a1_2).bind fun bt293 => ((laws_eqHalf.f kj29 t272 t273 t276 bt293.1 bt293.2.1 bt293.2.2).bind fun t298 => (if t298 = true then ((laws_markHalf.f kj29 t266 t267 t270 1).bind fun bt299 => ((laws_markHalf.f kj29 t272 t273 t276 bt299.1).bind fun bt301 => (if bt301.1 < 0 then (laws_FnExactMisfitsOf.j1 kj29 t259 t262 t265 t278 t281 true a0_0 l0_1 a0_2 a1_0 l1_1 a1_2) else ((laws_eqInt64S.f kj29 t278 t259).bind fun t303 => (if t303 = true then ((laws_eqInt64S.f kj29 t281 t262).bind fun t304 => (if t304 = true then (laws_FnExactMisfitsOf.j1 kj29 t259 t262 t265 t278 t281 (t284 != t265) a0_0 l0_1 a0_2 a1_0 l1_1 a1_2) else (laws_FnExactMisfitsOf.j1 kj29 t259 t262 t265 t278 t281 true a0_0 l0_1 a0_2 a1_0 l1_1 a1_2))) else (laws_FnExactMisfitsOf.j1 kj29 t259 t262 t265 t278 t281 true a0_0 l0_1 a0_2 a1_0 l1_1 a1_2)))))) else (some false)))) = some r := by rw [if_pos rfl] at H; exact H
          clear H
          have H := H1
          clear H1
          replace H := Option.bind_eq_some_iff.mp H
          obtain ⟨⟨t293, t294, t297⟩, A720, H⟩ := H
          replace H : ((laws_eqHalf.f kj29 t272 t273 t276 t293 t294 t297).bind fun t298 => (if t298 = true then ((laws_markHalf.f kj29 t266 t267 t270 1).bind fun bt299 => ((laws_markHalf.f kj29 t272 t273 t276 bt299.1).bind fun bt301 => (if bt301.1 < 0 then (laws_FnExactMisfitsOf.j1 kj29 t259 t262 t265 t278 t281 true a0_0 l0_1 a0_2 a1_0 l1_1 a1_2) else ((laws_eqInt64S.f kj29 t278 t259).bind fun t303 => (if t303 = true then ((laws_eqInt64S.f kj29 t281 t262).bind fun t304 => (if t304 = true then (laws_FnExactMisfitsOf.j1 kj29 t259 t262 t265 t278 t281 (t284 != t265) a0_0 l0_1 a0_2 a1_0 l1_1 a1_2) else (laws_FnExactMisfitsOf.j1 kj29 t259 t262 t265 t278 t281 true a0_0 l0_1 a0_2 a1_0 l1_1 a1_2))) else (laws_FnExactMisfitsOf.j1 kj29 t259 t262 t265 t278 t281 true a0_0 l0_1 a0_2 a1_0 l1_1 a1_2)))))) else (some false))) = some r := H
          have A72 := Aside0.mk A720
          clear A720
          replace H := Option.bind_eq_some_iff.mp H
          obtain ⟨t298, A730, H⟩ := H
          replace H : (if t298 = true then ((laws_markHalf.f kj29 t266 t267 t270 1).bind fun bt299 => ((laws_markHalf.f kj29 t272 t273 t276 bt299.1).bind fun bt301 => (if bt301.1 < 0 then (laws_FnExactMisfitsOf.j1 kj29 t259 t262 t265 t278 t281 true a0_0 l0_1 a0_2 a1_0 l1_1 a1_2) else ((laws_eqInt64S.f kj29 t278 t259).bind fun t303 => (if t303 = true then ((laws_eqInt64S.f kj29 t281 t262).bind fun t304 => (if t304 = true then (laws_FnExactMisfitsOf.j1 kj29 t259 t262 t265 t278 t281 (t284 != t265) a0_0 l0_1 a0_2 a1_0 l1_1 a1_2) else (laws_FnExactMisfitsOf.j1 kj29 t259 t262 t265 t278 t281 true a0_0 l0_1 a0_2 a1_0 l1_1 a1_2))) else (laws_FnExactMisfitsOf.j1 kj29 t259 t262 t265 t278 t281 true a0_0 l0_1 a0_2 a1_0 l1_1 a1_2)))))) else (some false)) = some r := H
          have A73 := Aside0.mk A730
          clear A730
          by_cases c74 : t298 = true
          · subst c74
            have H1 : ((laws_markHalf.f kj29 t266 t267 t270 1).bind fun bt299 => ((laws_markHalf.f kj29 t272 t273 t276 bt299.1).bind fun bt301 => (if bt301.1 < 0 then (laws_FnExactMisfitsOf.j1 kj29 t259 t262 t265 t278 t281 true a0_0 l0_1 a0_2 a1_0 l1_1 a1_2) else ((laws_eqInt64S.f kj29 t278 t259).bind fun t303 => (if t303 = true then ((laws_eqInt64S.f kj29 t281 t262).bind fun t304 => (if t304 = true then (laws_FnExactMisfitsOf.j1 kj29 t259 t262 t265 t278 t281 (t284 != t265) a0_0 l0_1 a0_2 a1_0 l1_1 a1_2) else (laws_FnExactMisfitsOf.j1 kj29 t259 t262 t265 t278 t281 true a0_0 l0_1 a0_2 a1_0 l1_1 a1_2))) else (laws_FnExactMisfitsOf.j1 kj29 t259 t262 t265 t278 t281 true a0_0 l0_1 a0_2 a1_0 l1_1 a1_2)))))) = some r := by rw [if_pos rfl] at H; exact H
            clear H
            have H := H1
            clear H1
            replace H := Option.bind_eq_some_iff.mp H
            obtain ⟨⟨t299, t300⟩, A760, H⟩ := H
            replace H : ((laws_markHalf.f kj29 t272 t273 t276 t299).bind fun bt301 => (if bt301.1 < 0 then (laws_FnExactMisfitsOf.j1 kj29 t259 t262 t265 t278 t281 true a0_0 l0_1 a0_2 a1_0 l1_1 a1_2) else ((laws_eqInt64S.f kj29 t278 t259).bind fun t303 => (if t303 = true then ((laws_eqInt64S.f kj29 t281 t262).bind fun t304 => (if t304 = true then (laws_FnExactMisfitsOf.j1 kj29 t259 t262 t265 t278 t281 (t284 != t265) a0_0 l0_1 a0_2 a1_0 l1_1 a1_2) else (laws_FnExactMisfitsOf.j1 kj29 t259 t262 t265 t278 t281 true a0_0 l0_1 a0_2 a1_0 l1_1 a1_2))) else (laws_FnExactMisfitsOf.j1 kj29 t259 t262 t265 t278 t281 true a0_0 l0_1 a0_2 a1_0 l1_1 a1_2))))) = some r := H
            have A76 := Aside0.mk A760
            clear A760
            replace H := Option.bind_eq_some_iff.mp H
            obtain ⟨⟨t301, t302⟩, A780, H⟩ := H
            replace H : (if t301 < 0 then (laws_FnExactMisfitsOf.j1 kj29 t259 t262 t265 t278 t281 true a0_0 l0_1 a0_2 a1_0 l1_1 a1_2) else ((laws_eqInt64S.f kj29 t278 t259).bind fun t303 => (if t303 = true then ((laws_eqInt64S.f kj29 t281 t262).bind fun t304 => (if t304 = true then (laws_FnExactMisfitsOf.j1 kj29 t259 t262 t265 t278 t281 (t284 != t265) a0_0 l0_1 a0_2 a1_0 l1_1 a1_2) else (laws_FnExactMisfitsOf.j1 kj29 t259 t262 t265 t278 t281 true a0_0 l0_1 a0_2 a1_0 l1_1 a1_2))) else (laws_FnExactMisfitsOf.j1 kj29 t259 t262 t265 t278 t281 true a0_0 l0_1 a0_2 a1_0 l1_1 a1_2)))) = some r := H
            have A78 := Aside0.mk A780
            clear A780
            have HC79 := Aside0.mk H
            clear H
            try go_wp2
            have n0_ := Aside0.mk (Kd.R_drew HO_6.out)
            have n1_ := Aside0.mk (Kd.R_drew HO_7.out)
            have n2_ := Aside0.mk (Kd.R_drew HO_11.out)
            have n3_ := Aside0.mk (Kd.R_drew HO_12.out)
            have n4_ := Aside0.mk (Kd.R_drew HO_272001.out)
            have n5_ := Aside0.mk (Kd.R_drew HO_278001.out)
            have n6_ := Aside0.mk (blk_drew BK245.out)
            have n7_ := Aside0.mk (blk_drew BK246.out)
            have n8_ := Aside0.mk (blk_drew BK271.out)
            have n9_ := Aside0.mk (blk_drew BK277.out)
            have n10_ := Aside0.mk (below_drew1 HB.out)
            clear HO_6
            clear HO_7
            clear HO_11
            clear HO_12
            clear HO_272001
            clear HO_278001
            clear BK245
            clear BK246
            clear BK271
            clear BK277
            clear HB
            have HO_6 := n0_
            have HO_7 := n1_
            have HO_11 := n2_
            have HO_12 := n3_
            have HO_272001 := n4_
            have HO_278001 := n5_
            have BK245 := n6_
            have BK246 := n7_
            have BK271 := n8_
            have BK277 := n9_
            have HB := n10_
            clear n0_ n1_ n2_ n3_ n4_ n5_ n6_ n7_ n8_ n9_ n10_
            refine start_ (n := 5) (S := fun w' => w'.heap[gb271]? = some (.cells (⟨(.bool t266) :: (.slice Ao44 t267.length co44) :: Arr.arL .i8 t270⟩ : Array Value) 47 (0, 0)) ∧ w'.heap[gb245]? = some (.cells (⟨(.bool a0_0) :: (.slice A0_1 l0_1.length c0_1) :: Arr.arL .i8 a0_2⟩ : Array Value) 42 (0, 0))) (ds := []) #[false, false, false, false, false] (by kernel_rfl) rfl rfl ⟨BK271.out, BK245.out⟩ (fun hHeld => ?_)
            generalize wc.drew = w80 at HO_6 HO_7 HO_11 HO_12 HO_272001 HO_278001 BK245 BK246 BK271 BK277 HB hHeld ⊢
            refine take_ (i := 0) (N := some 65) (v := ?_) (a' := ?_) #[true, false, false, false, false] rfl rfl (by kernel_rfl) (fun _ _ _ h => h) (Or.inl ⟨by rfl, ?_⟩) hHeld ?_ ?_
            rotate_left
            · rintro w' ⟨s0, s1⟩
              refine Arr.exec_load (T := 47) (p := 9) (g := gb271) (off := 0) (t := 47) (l := ((.bool t266) :: (.slice Ao44 t267.length co44) :: Arr.arL .i8 t270)) (m := ((.bool t266) :: (.slice Ao44 t267.length co44) :: Arr.arL .i8 t270)) (fr := (0, 0)) (n := 18) ?_ ?_ s0 ?_ Try.underlying47 ?_ ?_ ?_
              · rfl
              · first | (go_simp; done) | rfl | (go_simp; rfl)
              · rfl
              · rfl
              · kernel_rfl
              · simp [Arr.arL_length]
            rotate_left
            · simp only [Act.put, List.setIfInBounds_toArray, List.set_cons_zero, List.set_cons_succ, i64_w, i32_w]
              rfl
            refine take_ (i := 1) (N := some 66) (v := ?_) (a' := ?_) #[true, true, false, false, false] rfl rfl (by kernel_rfl) (fun _ _ _ h => h) (Or.inl ⟨by rfl, ?_⟩) hHeld ?_ ?_
            rotate_left
            · rintro w' ⟨s0, s1⟩
              refine Arr.exec_load (T := 42) (p := 2) (g := gb245) (off := 0) (t := 42) (l := ((.bool a0_0) :: (.slice A0_1 l0_1.length c0_1) :: Arr.arL .i8 a0_2)) (m := ((.bool a0_0) :: (.slice A0_1 l0_1.length c0_1) :: Arr.arL .i8 a0_2)) (fr := (0, 0)) (n := 18) ?_ ?_ s1 ?_ Try.underlying42 ?_ ?_ ?_
              · rfl
              · first | (go_simp; done) | rfl | (go_simp; rfl)
              · rfl
              · rfl
              · kernel_rfl
              · simp [Arr.arL_length]
            rotate_left
            · simp only [Act.put, List.setIfInBounds_toArray, List.set_cons_zero, List.set_cons_succ, i64_w, i32_w]
              rfl
            refine one_ (i := 2) (N := some 67) #[true, true, true, false, false] rfl rfl (by kernel_rfl) (by decide) (fun K hK => ?_)
            refine goes_ Try.func29 (by kernel_rfl) rfl #[.agg (⟨(.bool a0_0) :: (.slice A0_1 l0_1.length c0_1) :: Arr.arL .i8 a0_2⟩ : Array Value)] (by rfl) rfl rfl (by (try simp only [List.map_toArray, List.map_cons, List.map_nil]); first | done | (go_simp; done) | rfl | (simp only [List.length_drop, List.length_take]; rfl)) ?_
            with_reducible refine (laws_toHalf.calls kj29 a0_0 _ _ l0_1 a0_2 t287 t288 t291 _ ?side1 ?side2 A67.out).mono ?_
            (case side1 => repeat (first | exact (Kd.C_below HR0_1.out HB.out) | (with_reducible refine Kd.C_alloc ?_ _) | (with_reducible refine Kd.C_drewN ?_ _) | (with_reducible refine Kd.C_drew ?_)))
            (case side2 => exact HC0_1.out)
            rintro e w81 ⟨v289, rfl, ho0, hb⟩
            refine ⟨_, rfl, ?_⟩
            have n0_ := Aside0.mk (Kd.R_below (by (with_reducible repeat (first | apply Kd.R_alloc | apply Kd.R_drewN | apply Kd.R_drew)); exact HO_6.out) hb)
            have n1_ := Aside0.mk (Kd.R_below (by (with_reducible repeat (first | apply Kd.R_alloc | apply Kd.R_drewN | apply Kd.R_drew)); exact HO_7.out) hb)
            have n2_ := Aside0.mk (Kd.R_below (by (with_reducible repeat (first | apply Kd.R_alloc | apply Kd.R_drewN | apply Kd.R_drew)); exact HO_11.out) hb)
            have n3_ := Aside0.mk (Kd.R_below (by (with_reducible repeat (first | apply Kd.R_alloc | apply Kd.R_drewN | apply Kd.R_drew)); exact HO_12.out) hb)
            have n4_ := Aside0.mk (Kd.R_elder' (by (with_reducible repeat (first | apply Kd.R_alloc | apply Kd.R_drewN | apply Kd.R_drew)); exact HO_272001.out) (Kd.R_base ho0) hb)
            have n5_ := Aside0.mk (Kd.R_elder' (by (with_reducible repeat (first | apply Kd.R_alloc | apply Kd.R_drewN | apply Kd.R_drew)); exact HO_278001.out) (Kd.R_base ho0) hb)
            have n6_ := Aside0.mk (Kd.R_lower (Kd.R_new' (Kd.R_new' ho0 (Kd.R_lt (by (with_reducible repeat (first | apply Kd.R_alloc | apply Kd.R_drewN | apply Kd.R_drew)); exact HO_272001.out))) (Kd.R_lt (by (with_reducible repeat (first | apply Kd.R_alloc | apply Kd.R_drewN | apply Kd.R_drew)); exact HO_278001.out))) (below_size (by repeat (first | (with_reducible first | exact HB.out | apply below_alloc | apply pw_below_drewN | apply below_drew1 | refine below_set ?_ GE245.out | refine below_set ?_ GE246.out | refine below_set ?_ GE271.out | refine below_set ?_ GE277.out) | exact HB.out))))
            have n7_ := Aside0.mk (blk_below (g := gb245) (o := .cells (⟨(.bool a0_0) :: (.slice A0_1 l0_1.length c0_1) :: Arr.arL .i8 a0_2⟩ : Array Value) 42 (0, 0)) (by (with_reducible repeat (first | refine blk_drewN ?_ _ | refine blk_drew ?_ | refine blk_alloc ?_ _)); exact BK245.out) hb)
            have n8_ := Aside0.mk (blk_below (g := gb246) (o := .cells (⟨(.bool a1_0) :: (.slice A1_1 l1_1.length c1_1) :: Arr.arL .i8 a1_2⟩ : Array Value) 42 (0, 0)) (by (with_reducible repeat (first | refine blk_drewN ?_ _ | refine blk_drew ?_ | refine blk_alloc ?_ _)); exact BK246.out) hb)
            have n9_ := Aside0.mk (blk_below (g := gb271) (o := .cells (⟨(.bool t266) :: (.slice Ao44 t267.length co44) :: Arr.arL .i8 t270⟩ : Array Value) 47 (0, 0)) (by (with_reducible repeat (first | refine blk_drewN ?_ _ | refine blk_drew ?_ | refine blk_alloc ?_ _)); exact BK271.out) hb)
            have n10_ := Aside0.mk (blk_below (g := gb277) (o := .cells (⟨(.bool t272) :: (.slice Ao48 t273.length co48) :: Arr.arL .i8 t276⟩ : Array Value) 47 (0, 0)) (by (with_reducible repeat (first | refine blk_drewN ?_ _ | refine blk_drew ?_ | refine blk_alloc ?_ _)); exact BK277.out) hb)
            have n11_ := Aside0.mk (below_step (by repeat (first | (with_reducible first | exact HB.out | apply below_alloc | apply pw_below_drewN | apply below_drew1 | refine below_set ?_ GE245.out | refine below_set ?_ GE246.out | refine below_set ?_ GE271.out | refine below_set ?_ GE277.out) | exact HB.out)) hb)
            clear HO_6
            clear HO_7
            clear HO_11
            clear HO_12
            clear HO_272001
            clear HO_278001
            clear BK245
            clear BK246
            clear BK271
            clear BK277
            clear HB
            have HO_6 := n0_
            have HO_7 := n1_
            have HO_11 := n2_
            have HO_12 := n3_
            have HO_272001 := n4_
            have HO_278001 := n5_
            have HO290 := n6_
            have BK245 := n7_
            have BK246 := n8_
            have BK271 := n9_
            have BK277 := n10_
            have HB := n11_
            clear n0_ n1_ n2_ n3_ n4_ n5_ n6_ n7_ n8_ n9_ n10_ n11_
            (try clear hb)
            (try clear hb2)
            (try clear hk)
            (try clear hi)
            (try clear ho0)
            obtain ⟨Ao82, co82, eo82⟩ := Kd.R_slice HO290.out
            (first | subst eo82 | (injection eo82 with f1_ f2_ f3_; have f4_ := f1_.symm; have f5_ := f3_.symm; clear f1_ f2_ f3_; subst f4_; subst f5_))
            refine hK.out _ _ ⟨BK271.out, BK245.out⟩ (fun hHeld => ?_)
            clear hK K
            refine norm_ (a' := ?_) ?_ ?_
            rotate_left
            · show Act.put _ (some 67) _ = _
              simp only [Act.put, List.setIfInBounds_toArray, List.set_cons_zero, List.set_cons_succ, i64_w, i32_w]
              rfl
            refine one_ (i := 3) (N := some 68) #[true, true, true, true, false] rfl rfl (by kernel_rfl) (by decide) (fun K hK => ?_)
            refine goes_ Try.func31 (by kernel_rfl) rfl #[.agg (⟨(.bool t266) :: (.slice Ao44 t267.length co44) :: Arr.arL .i8 t270⟩ : Array Value), .agg (⟨(.bool t287) :: (.slice Ao82 t288.length co82) :: Arr.arL .i8 t291⟩ : Array Value)] (by rfl) rfl rfl (by (try simp only [List.map_toArray, List.map_cons, List.map_nil]); first | done | (go_simp; done) | rfl | (simp only [List.length_drop, List.length_take]; rfl)) ?_
            with_reducible refine (laws_eqHalf.calls kj29 t266 _ _ t267 t270 t287 _ _ t288 t291 true _ ?side1 ?side2 ?side3 ?side4 A68.out).mono ?_
            (case side1 => repeat (first | exact (Kd.R_reads' HO_272001.out).2.2 | (with_reducible refine Kd.C_alloc ?_ _) | (with_reducible refine Kd.C_drewN ?_ _) | (with_reducible refine Kd.C_drew ?_)))
            (case side2 => exact (Kd.R_reads' HO_272001.out).2.1)
            (case side3 => repeat (first | exact (Kd.R_reads' HO290.out).2.2 | (with_reducible refine Kd.C_alloc ?_ _) | (with_reducible refine Kd.C_drewN ?_ _) | (with_reducible refine Kd.C_drew ?_)))
            (case side4 => exact (Kd.R_reads' HO290.out).2.1)
            rintro e w83 ⟨rfl, hb⟩
            refine ⟨_, rfl, ?_⟩
            have n0_ := Aside0.mk (Kd.R_below (by (with_reducible repeat (first | apply Kd.R_alloc | apply Kd.R_drewN | apply Kd.R_drew)); exact HO_6.out) hb)
            have n1_ := Aside0.mk (Kd.R_below (by (with_reducible repeat (first | apply Kd.R_alloc | apply Kd.R_drewN | apply Kd.R_drew)); exact HO_7.out) hb)
            have n2_ := Aside0.mk (Kd.R_below (by (with_reducible repeat (first | apply Kd.R_alloc | apply Kd.R_drewN | apply Kd.R_drew)); exact HO_11.out) hb)
            have n3_ := Aside0.mk (Kd.R_below (by (with_reducible repeat (first | apply Kd.R_alloc | apply Kd.R_drewN | apply Kd.R_drew)); exact HO_12.out) hb)
            have n4_ := Aside0.mk (Kd.R_below (by (with_reducible repeat (first | apply Kd.R_alloc | apply Kd.R_drewN | apply Kd.R_drew)); exact HO_272001.out) hb)
            have n5_ := Aside0.mk (Kd.R_below (by (with_reducible repeat (first | apply Kd.R_alloc | apply Kd.R_drewN | apply Kd.R_drew)); exact HO_278001.out) hb)
            have n6_ := Aside0.mk (Kd.R_below (by (with_reducible repeat (first | apply Kd.R_alloc | apply Kd.R_drewN | apply Kd.R_drew)); exact HO290.out) hb)
            have n7_ := Aside0.mk (blk_below (g := gb245) (o := .cells (⟨(.bool a0_0) :: (.slice A0_1 l0_1.length c0_1) :: Arr.arL .i8 a0_2⟩ : Array Value) 42 (0, 0)) (by (with_reducible repeat (first | refine blk_drewN ?_ _ | refine blk_drew ?_ | refine blk_alloc ?_ _)); exact BK245.out) hb)
            have n8_ := Aside0.mk (blk_below (g := gb246) (o := .cells (⟨(.bool a1_0) :: (.slice A1_1 l1_1.length c1_1) :: Arr.arL .i8 a1_2⟩ : Array Value) 42 (0, 0)) (by (with_reducible repeat (first | refine blk_drewN ?_ _ | refine blk_drew ?_ | refine blk_alloc ?_ _)); exact BK246.out) hb)
            have n9_ := Aside0.mk (blk_below (g := gb271) (o := .cells (⟨(.bool t266) :: (.slice Ao44 t267.length co44) :: Arr.arL .i8 t270⟩ : Array Value) 47 (0, 0)) (by (with_reducible repeat (first | refine blk_drewN ?_ _ | refine blk_drew ?_ | refine blk_alloc ?_ _)); exact BK271.out) hb)
            have n10_ := Aside0.mk (blk_below (g := gb277) (o := .cells (⟨(.bool t272) :: (.slice Ao48 t273.length co48) :: Arr.arL .i8 t276⟩ : Array Value) 47 (0, 0)) (by (with_reducible repeat (first | refine blk_drewN ?_ _ | refine blk_drew ?_ | refine blk_alloc ?_ _)); exact BK277.out) hb)
            have n11_ := Aside0.mk (below_step (by repeat (first | (with_reducible first | exact HB.out | apply below_alloc | apply pw_below_drewN | apply below_drew1 | refine below_set ?_ GE245.out | refine below_set ?_ GE246.out | refine below_set ?_ GE271.out | refine below_set ?_ GE277.out) | exact HB.out)) hb)
            clear HO_6
            clear HO_7
            clear HO_11
            clear HO_12
            clear HO_272001
            clear HO_278001
            clear HO290
            clear BK245
            clear BK246
            clear BK271
            clear BK277
            clear HB
            have HO_6 := n0_
            have HO_7 := n1_
            have HO_11 := n2_
            have HO_12 := n3_
            have HO_272001 := n4_
            have HO_278001 := n5_
            have HO290 := n6_
            have BK245 := n7_
            have BK246 := n8_
            have BK271 := n9_
            have BK277 := n10_
            have HB := n11_
            clear n0_ n1_ n2_ n3_ n4_ n5_ n6_ n7_ n8_ n9_ n10_ n11_
            (try clear hb)
            (try clear hb2)
            (try clear hk)
            (try clear hi)
            refine hK.out _ _ ⟨BK271.out, BK245.out⟩ (fun hHeld => ?_)
            clear hK K
            refine norm_ (a' := ?_) ?_ ?_
            rotate_left
            · show Act.put _ (some 68) _ = _
              simp only [Act.put, List.setIfInBounds_toArray, List.set_cons_zero, List.set_cons_succ, i64_w, i32_w]
              rfl
            refine pure_ (i := 4) (N := some 69) (v := ?_) (a' := ?_) #[true, true, true, true, true] rfl rfl (by kernel_rfl) (fun _ _ _ h => h) (Or.inl ⟨by rfl, ?_⟩) ?_ ?_
            rotate_left
            · intro w'
              go_simp
              with_reducible rfl
            rotate_left
            · simp only [Act.put, List.setIfInBounds_toArray, List.set_cons_zero, List.set_cons_succ, i64_w, i32_w]
              rfl
            refine done_ (by kernel_rfl) ?_
            try go_wp2
            have n0_ := Aside0.mk (Kd.R_drew HO_6.out)
            have n1_ := Aside0.mk (Kd.R_drew HO_7.out)
            have n2_ := Aside0.mk (Kd.R_drew HO_11.out)
            have n3_ := Aside0.mk (Kd.R_drew HO_12.out)
            have n4_ := Aside0.mk (Kd.R_drew HO_272001.out)
            have n5_ := Aside0.mk (Kd.R_drew HO_278001.out)
            have n6_ := Aside0.mk (Kd.R_drew HO290.out)
            have n7_ := Aside0.mk (blk_drew BK245.out)
            have n8_ := Aside0.mk (blk_drew BK246.out)
            have n9_ := Aside0.mk (blk_drew BK271.out)
            have n10_ := Aside0.mk (blk_drew BK277.out)
            have n11_ := Aside0.mk (below_drew1 HB.out)
            clear HO_6
            clear HO_7
            clear HO_11
            clear HO_12
            clear HO_272001
            clear HO_278001
            clear HO290
            clear BK245
            clear BK246
            clear BK271
            clear BK277
            clear HB
            have HO_6 := n0_
            have HO_7 := n1_
            have HO_11 := n2_
            have HO_12 := n3_
            have HO_272001 := n4_
            have HO_278001 := n5_
            have HO290 := n6_
            have BK245 := n7_
            have BK246 := n8_
            have BK271 := n9_
            have BK277 := n10_
            have HB := n11_
            clear n0_ n1_ n2_ n3_ n4_ n5_ n6_ n7_ n8_ n9_ n10_ n11_
            refine start_ (n := 5) (S := fun w' => w'.heap[gb277]? = some (.cells (⟨(.bool t272) :: (.slice Ao48 t273.length co48) :: Arr.arL .i8 t276⟩ : Array Value) 47 (0, 0)) ∧ w'.heap[gb246]? = some (.cells (⟨(.bool a1_0) :: (.slice A1_1 l1_1.length c1_1) :: Arr.arL .i8 a1_2⟩ : Array Value) 42 (0, 0))) (ds := []) #[false, false, false, false, false] (by kernel_rfl) rfl rfl ⟨BK277.out, BK246.out⟩ (fun hHeld => ?_)
            generalize w83.drew = w84 at HO_6 HO_7 HO_11 HO_12 HO_272001 HO_278001 HO290 BK245 BK246 BK271 BK277 HB hHeld ⊢
            refine take_ (i := 0) (N := some 70) (v := ?_) (a' := ?_) #[true, false, false, false, false] rfl rfl (by kernel_rfl) (fun _ _ _ h => h) (Or.inl ⟨by rfl, ?_⟩) hHeld ?_ ?_
            rotate_left
            · rintro w' ⟨s0, s1⟩
              refine Arr.exec_load (T := 47) (p := 10) (g := gb277) (off := 0) (t := 47) (l := ((.bool t272) :: (.slice Ao48 t273.length co48) :: Arr.arL .i8 t276)) (m := ((.bool t272) :: (.slice Ao48 t273.length co48) :: Arr.arL .i8 t276)) (fr := (0, 0)) (n := 18) ?_ ?_ s0 ?_ Try.underlying47 ?_ ?_ ?_
              · rfl
              · first | (go_simp; done) | rfl | (go_simp; rfl)
              · rfl
              · rfl
              · kernel_rfl
              · simp [Arr.arL_length]
            rotate_left
            · simp only [Act.put, List.setIfInBounds_toArray, List.set_cons_zero, List.set_cons_succ, i64_w, i32_w]
              rfl
            refine take_ (i := 1) (N := some 71) (v := ?_) (a' := ?_) #[true, true, false, false, false] rfl rfl (by kernel_rfl) (fun _ _ _ h => h) (Or.inl ⟨by rfl, ?_⟩) hHeld ?_ ?_
            rotate_left
            · rintro w' ⟨s0, s1⟩
              refine Arr.exec_load (T := 42) (p := 3) (g := gb246) (off := 0) (t := 42) (l := ((.bool a1_0) :: (.slice A1_1 l1_1.length c1_1) :: Arr.arL .i8 a1_2)) (m := ((.bool a1_0) :: (.slice A1_1 l1_1.length c1_1) :: Arr.arL .i8 a1_2)) (fr := (0, 0)) (n := 18) ?_ ?_ s1 ?_ Try.underlying42 ?_ ?_ ?_
              · rfl
              · first | (go_simp; done) | rfl | (go_simp; rfl)
              · rfl
              · rfl
              · kernel_rfl
              · simp [Arr.arL_length]
            rotate_left
            · simp only [Act.put, List.setIfInBounds_toArray, List.set_cons_zero, List.set_cons_succ, i64_w, i32_w]
              rfl
            refine one_ (i := 2) (N := some 72) #[true, true, true, false, false] rfl rfl (by kernel_rfl) (by decide) (fun K hK => ?_)
            refine goes_ Try.func29 (by kernel_rfl) rfl #[.agg (⟨(.bool a1_0) :: (.slice A1_1 l1_1.length c1_1) :: Arr.arL .i8 a1_2⟩ : Array Value)] (by rfl) rfl rfl (by (try simp only [List.map_toArray, List.map_cons, List.map_nil]); first | done | (go_simp; done) | rfl | (simp only [List.length_drop, List.length_take]; rfl)) ?_
            with_reducible refine (laws_toHalf.calls kj29 a1_0 _ _ l1_1 a1_2 t293 t294 t297 _ ?side1 ?side2 A72.out).mono ?_
            (case side1 => repeat (first | exact (Kd.C_below HR1_1.out HB.out) | (with_reducible refine Kd.C_alloc ?_ _) | (with_reducible refine Kd.C_drewN ?_ _) | (with_reducible refine Kd.C_drew ?_)))
            (case side2 => exact HC1_1.out)
            rintro e w85 ⟨v295, rfl, ho0, hb⟩
            refine ⟨_, rfl, ?_⟩
            have n0_ := Aside0.mk (Kd.R_below (by (with_reducible repeat (first | apply Kd.R_alloc | apply Kd.R_drewN | apply Kd.R_drew)); exact HO_6.out) hb)
            have n1_ := Aside0.mk (Kd.R_below (by (with_reducible repeat (first | apply Kd.R_alloc | apply Kd.R_drewN | apply Kd.R_drew)); exact HO_7.out) hb)
            have n2_ := Aside0.mk (Kd.R_below (by (with_reducible repeat (first | apply Kd.R_alloc | apply Kd.R_drewN | apply Kd.R_drew)); exact HO_11.out) hb)
            have n3_ := Aside0.mk (Kd.R_below (by (with_reducible repeat (first | apply Kd.R_alloc | apply Kd.R_drewN | apply Kd.R_drew)); exact HO_12.out) hb)
            have n4_ := Aside0.mk (Kd.R_elder' (by (with_reducible repeat (first | apply Kd.R_alloc | apply Kd.R_drewN | apply Kd.R_drew)); exact HO_272001.out) (Kd.R_base ho0) hb)
            have n5_ := Aside0.mk (Kd.R_elder' (by (with_reducible repeat (first | apply Kd.R_alloc | apply Kd.R_drewN | apply Kd.R_drew)); exact HO_278001.out) (Kd.R_base ho0) hb)
            have n6_ := Aside0.mk (Kd.R_elder' (by (with_reducible repeat (first | apply Kd.R_alloc | apply Kd.R_drewN | apply Kd.R_drew)); exact HO290.out) (Kd.R_base ho0) hb)
            have n7_ := Aside0.mk (Kd.R_lower (Kd.R_new' (Kd.R_new' (Kd.R_new' ho0 (Kd.R_lt (by (with_reducible repeat (first | apply Kd.R_alloc | apply Kd.R_drewN | apply Kd.R_drew)); exact HO_272001.out))) (Kd.R_lt (by (with_reducible repeat (first | apply Kd.R_alloc | apply Kd.R_drewN | apply Kd.R_drew)); exact HO_278001.out))) (Kd.R_lt (by (with_reducible repeat (first | apply Kd.R_alloc | apply Kd.R_drewN | apply Kd.R_drew)); exact HO290.out))) (below_size (by repeat (first | (with_reducible first | exact HB.out | apply below_alloc | apply pw_below_drewN | apply below_drew1 | refine below_set ?_ GE245.out | refine below_set ?_ GE246.out | refine below_set ?_ GE271.out | refine below_set ?_ GE277.out) | exact HB.out))))
            have n8_ := Aside0.mk (blk_below (g := gb245) (o := .cells (⟨(.bool a0_0) :: (.slice A0_1 l0_1.length c0_1) :: Arr.arL .i8 a0_2⟩ : Array Value) 42 (0, 0)) (by (with_reducible repeat (first | refine blk_drewN ?_ _ | refine blk_drew ?_ | refine blk_alloc ?_ _)); exact BK245.out) hb)
            have n9_ := Aside0.mk (blk_below (g := gb246) (o := .cells (⟨(.bool a1_0) :: (.slice A1_1 l1_1.length c1_1) :: Arr.arL .i8 a1_2⟩ : Array Value) 42 (0, 0)) (by (with_reducible repeat (first | refine blk_drewN ?_ _ | refine blk_drew ?_ | refine blk_alloc ?_ _)); exact BK246.out) hb)
            have n10_ := Aside0.mk (blk_below (g := gb271) (o := .cells (⟨(.bool t266) :: (.slice Ao44 t267.length co44) :: Arr.arL .i8 t270⟩ : Array Value) 47 (0, 0)) (by (with_reducible repeat (first | refine blk_drewN ?_ _ | refine blk_drew ?_ | refine blk_alloc ?_ _)); exact BK271.out) hb)
            have n11_ := Aside0.mk (blk_below (g := gb277) (o := .cells (⟨(.bool t272) :: (.slice Ao48 t273.length co48) :: Arr.arL .i8 t276⟩ : Array Value) 47 (0, 0)) (by (with_reducible repeat (first | refine blk_drewN ?_ _ | refine blk_drew ?_ | refine blk_alloc ?_ _)); exact BK277.out) hb)
            have n12_ := Aside0.mk (below_step (by repeat (first | (with_reducible first | exact HB.out | apply below_alloc | apply pw_below_drewN | apply below_drew1 | refine below_set ?_ GE245.out | refine below_set ?_ GE246.out | refine below_set ?_ GE271.out | refine below_set ?_ GE277.out) | exact HB.out)) hb)
            clear HO_6
            clear HO_7
            clear HO_11
            clear HO_12
            clear HO_272001
            clear HO_278001
            clear HO290
            clear BK245
            clear BK246
            clear BK271
            clear BK277
            clear HB
            have HO_6 := n0_
            have HO_7 := n1_
            have HO_11 := n2_
            have HO_12 := n3_
            have HO_272001 := n4_
            have HO_278001 := n5_
            have HO290 := n6_
            have HO296 := n7_
            have BK245 := n8_
            have BK246 := n9_
            have BK271 := n10_
            have BK277 := n11_
            have HB := n12_
            clear n0_ n1_ n2_ n3_ n4_ n5_ n6_ n7_ n8_ n9_ n10_ n11_ n12_
            (try clear hb)
            (try clear hb2)
            (try clear hk)
            (try clear hi)
            (try clear ho0)
            obtain ⟨Ao86, co86, eo86⟩ := Kd.R_slice HO296.out
            (first | subst eo86 | (injection eo86 with f1_ f2_ f3_; have f4_ := f1_.symm; have f5_ := f3_.symm; clear f1_ f2_ f3_; subst f4_; subst f5_))
            refine hK.out _ _ ⟨BK277.out, BK246.out⟩ (fun hHeld => ?_)
            clear hK K
            refine norm_ (a' := ?_) ?_ ?_
            rotate_left
            · show Act.put _ (some 72) _ = _
              simp only [Act.put, List.setIfInBounds_toArray, List.set_cons_zero, List.set_cons_succ, i64_w, i32_w]
              rfl
            refine one_ (i := 3) (N := some 73) #[true, true, true, true, false] rfl rfl (by kernel_rfl) (by decide) (fun K hK => ?_)
            refine goes_ Try.func31 (by kernel_rfl) rfl #[.agg (⟨(.bool t272) :: (.slice Ao48 t273.length co48) :: Arr.arL .i8 t276⟩ : Array Value), .agg (⟨(.bool t293) :: (.slice Ao86 t294.length co86) :: Arr.arL .i8 t297⟩ : Array Value)] (by rfl) rfl rfl (by (try simp only [List.map_toArray, List.map_cons, List.map_nil]); first | done | (go_simp; done) | rfl | (simp only [List.length_drop, List.length_take]; rfl)) ?_
            with_reducible refine (laws_eqHalf.calls kj29 t272 _ _ t273 t276 t293 _ _ t294 t297 true _ ?side1 ?side2 ?side3 ?side4 A73.out).mono ?_
            (case side1 => repeat (first | exact (Kd.R_reads' HO_278001.out).2.2 | (with_reducible refine Kd.C_alloc ?_ _) | (with_reducible refine Kd.C_drewN ?_ _) | (with_reducible refine Kd.C_drew ?_)))
            (case side2 => exact (Kd.R_reads' HO_278001.out).2.1)
            (case side3 => repeat (first | exact (Kd.R_reads' HO296.out).2.2 | (with_reducible refine Kd.C_alloc ?_ _) | (with_reducible refine Kd.C_drewN ?_ _) | (with_reducible refine Kd.C_drew ?_)))
            (case side4 => exact (Kd.R_reads' HO296.out).2.1)
            rintro e w87 ⟨rfl, hb⟩
            refine ⟨_, rfl, ?_⟩
            have n0_ := Aside0.mk (Kd.R_below (by (with_reducible repeat (first | apply Kd.R_alloc | apply Kd.R_drewN | apply Kd.R_drew)); exact HO_6.out) hb)
            have n1_ := Aside0.mk (Kd.R_below (by (with_reducible repeat (first | apply Kd.R_alloc | apply Kd.R_drewN | apply Kd.R_drew)); exact HO_7.out) hb)
            have n2_ := Aside0.mk (Kd.R_below (by (with_reducible repeat (first | apply Kd.R_alloc | apply Kd.R_drewN | apply Kd.R_drew)); exact HO_11.out) hb)
            have n3_ := Aside0.mk (Kd.R_below (by (with_reducible repeat (first | apply Kd.R_alloc | apply Kd.R_drewN | apply Kd.R_drew)); exact HO_12.out) hb)
            have n4_ := Aside0.mk (Kd.R_below (by (with_reducible repeat (first | apply Kd.R_alloc | apply Kd.R_drewN | apply Kd.R_drew)); exact HO_272001.out) hb)
            have n5_ := Aside0.mk (Kd.R_below (by (with_reducible repeat (first | apply Kd.R_alloc | apply Kd.R_drewN | apply Kd.R_drew)); exact HO_278001.out) hb)
            have n6_ := Aside0.mk (Kd.R_below (by (with_reducible repeat (first | apply Kd.R_alloc | apply Kd.R_drewN | apply Kd.R_drew)); exact HO290.out) hb)
            have n7_ := Aside0.mk (Kd.R_below (by (with_reducible repeat (first | apply Kd.R_alloc | apply Kd.R_drewN | apply Kd.R_drew)); exact HO296.out) hb)
            have n8_ := Aside0.mk (blk_below (g := gb245) (o := .cells (⟨(.bool a0_0) :: (.slice A0_1 l0_1.length c0_1) :: Arr.arL .i8 a0_2⟩ : Array Value) 42 (0, 0)) (by (with_reducible repeat (first | refine blk_drewN ?_ _ | refine blk_drew ?_ | refine blk_alloc ?_ _)); exact BK245.out) hb)
            have n9_ := Aside0.mk (blk_below (g := gb246) (o := .cells (⟨(.bool a1_0) :: (.slice A1_1 l1_1.length c1_1) :: Arr.arL .i8 a1_2⟩ : Array Value) 42 (0, 0)) (by (with_reducible repeat (first | refine blk_drewN ?_ _ | refine blk_drew ?_ | refine blk_alloc ?_ _)); exact BK246.out) hb)
            have n10_ := Aside0.mk (blk_below (g := gb271) (o := .cells (⟨(.bool t266) :: (.slice Ao44 t267.length co44) :: Arr.arL .i8 t270⟩ : Array Value) 47 (0, 0)) (by (with_reducible repeat (first | refine blk_drewN ?_ _ | refine blk_drew ?_ | refine blk_alloc ?_ _)); exact BK271.out) hb)
            have n11_ := Aside0.mk (blk_below (g := gb277) (o := .cells (⟨(.bool t272) :: (.slice Ao48 t273.length co48) :: Arr.arL .i8 t276⟩ : Array Value) 47 (0, 0)) (by (with_reducible repeat (first | refine blk_drewN ?_ _ | refine blk_drew ?_ | refine blk_alloc ?_ _)); exact BK277.out) hb)
            have n12_ := Aside0.mk (below_step (by repeat (first | (with_reducible first | exact HB.out | apply below_alloc | apply pw_below_drewN | apply below_drew1 | refine below_set ?_ GE245.out | refine below_set ?_ GE246.out | refine below_set ?_ GE271.out | refine below_set ?_ GE277.out) | exact HB.out)) hb)
            clear HO_6
            clear HO_7
            clear HO_11
            clear HO_12
            clear HO_272001
            clear HO_278001
            clear HO290
            clear HO296
            clear BK245
            clear BK246
            clear BK271
            clear BK277
            clear HB
            have HO_6 := n0_
            have HO_7 := n1_
            have HO_11 := n2_
            have HO_12 := n3_
            have HO_272001 := n4_
            have HO_278001 := n5_
            have HO290 := n6_
            have HO296 := n7_
            have BK245 := n8_
            have BK246 := n9_
            have BK271 := n10_
            have BK277 := n11_
            have HB := n12_
            clear n0_ n1_ n2_ n3_ n4_ n5_ n6_ n7_ n8_ n9_ n10_ n11_ n12_
            (try clear hb)
            (try clear hb2)
            (try clear hk)
            (try clear hi)
            refine hK.out _ _ ⟨BK277.out, BK246.out⟩ (fun hHeld => ?_)
            clear hK K
            refine norm_ (a' := ?_) ?_ ?_
            rotate_left
            · show Act.put _ (some 73) _ = _
              simp only [Act.put, List.setIfInBounds_toArray, List.set_cons_zero, List.set_cons_succ, i64_w, i32_w]
              rfl
            refine pure_ (i := 4) (N := some 74) (v := ?_) (a' := ?_) #[true, true, true, true, true] rfl rfl (by kernel_rfl) (fun _ _ _ h => h) (Or.inl ⟨by rfl, ?_⟩) ?_ ?_
            rotate_left
            · intro w'
              go_simp
              with_reducible rfl
            rotate_left
            · simp only [Act.put, List.setIfInBounds_toArray, List.set_cons_zero, List.set_cons_succ, i64_w, i32_w]
              rfl
            refine done_ (by kernel_rfl) ?_
            go_upto_region 21 with (first | ((with_reducible refine Arr.gate_load (t := 47) (p := 9) rfl ?_); (try (refine gate_guard (by rfl) ?_; dsimp only)); refine Arr.loadA ?hg (T := 47) (p := 9) ?ho (g := gb271) (off := 0) ?hx (t := 47) (l := ((.bool t266) :: (.slice Ao44 t267.length co44) :: Arr.arL .i8 t270)) (m := ((.bool t266) :: (.slice Ao44 t267.length co44) :: Arr.arL .i8 t270)) (fr := (0, 0)) (show w87.heap[gb271]? = some (.cells (⟨(.bool t266) :: (.slice Ao44 t267.length co44) :: Arr.arL .i8 t270⟩ : Array Value) 47 (0, 0)) from by (with_reducible repeat (first | refine blk_drewN ?_ _ | refine blk_drew ?_ | refine blk_alloc ?_ _)); exact BK271.out) rfl Try.underlying47 rfl (n := 18) (by kernel_rfl) (by simp [Arr.arL_length]) ?_; (case hg => rfl); (case ho => rfl); (case hx => first | (go_simp; done) | rfl | (go_simp; rfl))) | ((with_reducible refine gate_callee (f := 45) rfl ?_); refine goesL_ (some 77) rfl rfl Try.func45 (by kernel_rfl) rfl #[.agg (⟨(.bool t266) :: (.slice Ao44 t267.length co44) :: Arr.arL .i8 t270⟩ : Array Value), .int .i64 1] rfl (by (try simp only [List.map_toArray, List.map_cons, List.map_nil]); first | done | (go_simp; done) | rfl | (simp only [List.length_drop, List.length_take]; rfl)) ?_; (with_reducible refine (laws_markHalf.calls kj29 t266 (fun k_ => some k_ = (.slice Ao44 t267.length co44 : Value).ownBlock) (.slice Ao44 t267.length co44) t267 t270 1 t299 t300 w _ ?side1 ?side2 A76.out).mono ?_); (case side1 => repeat (first | (with_reducible first | exact HB.out | apply below_alloc | apply pw_below_drewN | apply below_drew1 | refine below_set ?_ GE245.out | refine below_set ?_ GE246.out | refine below_set ?_ GE271.out | refine below_set ?_ GE277.out) | exact HB.out)); (case side2 => exact Kd.R_tight rfl HO_272001.out); rintro e w88 ⟨rfl, hy0, hb, hkp⟩; refine ⟨_, rfl, ?_⟩; have n0_ := Aside0.mk (Kd.R_mono (ok' := fun k_ => some k_ ≠ (v263 : Value).ownBlock ∧ some k_ ≠ (v279 : Value).ownBlock ∧ some k_ ≠ (v282 : Value).ownBlock) (Kd.R_keptB ((Kd.R_apart' HO_6.out (Kd.R_typed HO_272001.out) (by decide))) hkp (fun k_ hk_ hs_ => (hk_.2) hs_)) (fun k_ hk_ => ⟨hk_.1.1.1, hk_.1.1.2.1, hk_.1.1.2.2⟩)); have n1_ := Aside0.mk (Kd.R_mono (ok' := fun k_ => some k_ ≠ (v260 : Value).ownBlock ∧ some k_ ≠ (v279 : Value).ownBlock ∧ some k_ ≠ (v282 : Value).ownBlock) (Kd.R_keptB ((Kd.R_apart' HO_7.out (Kd.R_typed HO_272001.out) (by decide))) hkp (fun k_ hk_ hs_ => (hk_.2) hs_)) (fun k_ hk_ => ⟨hk_.1.1.1, hk_.1.1.2.1, hk_.1.1.2.2⟩)); have n2_ := Aside0.mk (Kd.R_mono (ok' := fun k_ => some k_ ≠ (v260 : Value).ownBlock ∧ some k_ ≠ (v263 : Value).ownBlock ∧ some k_ ≠ (v282 : Value).ownBlock) (Kd.R_keptB ((Kd.R_apart' HO_11.out (Kd.R_typed HO_272001.out) (by decide))) hkp (fun k_ hk_ hs_ => (hk_.2) hs_)) (fun k_ hk_ => ⟨hk_.1.1.1, hk_.1.1.2.1, hk_.1.1.2.2⟩)); have n3_ := Aside0.mk (Kd.R_mono (ok' := fun k_ => some k_ ≠ (v260 : Value).ownBlock ∧ some k_ ≠ (v263 : Value).ownBlock ∧ some k_ ≠ (v279 : Value).ownBlock) (Kd.R_keptB ((Kd.R_apart' HO_12.out (Kd.R_typed HO_272001.out) (by decide))) hkp (fun k_ hk_ hs_ => (hk_.2) hs_)) (fun k_ hk_ => ⟨hk_.1.1.1, hk_.1.1.2.1, hk_.1.1.2.2⟩)); have n4_ := Aside0.mk (Kd.R_reok rfl hy0 (fun k_ e_ => HO_272001.out.1 k_ e_)); have n5_ := Aside0.mk (Kd.R_mono (ok' := fun k_ => some k_ ≠ (.slice Ao44 t267.length co44 : Value).ownBlock ∧ some k_ ≠ (.slice Ao82 t288.length co82 : Value).ownBlock ∧ some k_ ≠ (.slice Ao86 t294.length co86 : Value).ownBlock) (Kd.R_keptB (HO_278001.out) hkp (fun k_ hk_ hs_ => (hk_.1.1) hs_)) (fun k_ hk_ => ⟨hk_.1.1.1, hk_.1.1.2, hk_.1.2⟩)); have n6_ := Aside0.mk (blk_kept (by (with_reducible repeat (first | refine blk_drewN ?_ _ | refine blk_drew ?_ | refine blk_alloc ?_ _)); exact BK245.out) hkp (fun hs_ => (fun e_ => (Kd.R_ne HO_272001.out BK245.out (by decide)) e_) hs_)); have n7_ := Aside0.mk (blk_kept (by (with_reducible repeat (first | refine blk_drewN ?_ _ | refine blk_drew ?_ | refine blk_alloc ?_ _)); exact BK246.out) hkp (fun hs_ => (fun e_ => (Kd.R_ne HO_272001.out BK246.out (by decide)) e_) hs_)); have n8_ := Aside0.mk (blk_kept (by (with_reducible repeat (first | refine blk_drewN ?_ _ | refine blk_drew ?_ | refine blk_alloc ?_ _)); exact BK271.out) hkp (fun hs_ => (fun e_ => (Kd.R_ne HO_272001.out BK271.out (by decide)) e_) hs_)); have n9_ := Aside0.mk (blk_kept (by (with_reducible repeat (first | refine blk_drewN ?_ _ | refine blk_drew ?_ | refine blk_alloc ?_ _)); exact BK277.out) hkp (fun hs_ => (fun e_ => (Kd.R_ne HO_272001.out BK277.out (by decide)) e_) hs_)); have n10_ := Aside0.mk (Kd.R_mono (ok' := fun k_ => some k_ ≠ (.slice Ao44 t267.length co44 : Value).ownBlock ∧ some k_ ≠ (.slice Ao48 t273.length co48 : Value).ownBlock ∧ some k_ ≠ (.slice Ao86 t294.length co86 : Value).ownBlock) (Kd.R_keptB (HO290.out) hkp (fun k_ hk_ hs_ => (hk_.1.1.2) hs_)) (fun k_ hk_ => ⟨hk_.1.1.1.2, hk_.1.1.2, hk_.1.2⟩)); have n11_ := Aside0.mk (Kd.R_mono (ok' := fun k_ => some k_ ≠ (.slice Ao44 t267.length co44 : Value).ownBlock ∧ some k_ ≠ (.slice Ao48 t273.length co48 : Value).ownBlock ∧ some k_ ≠ (.slice Ao82 t288.length co82 : Value).ownBlock) (Kd.R_keptB (HO296.out) hkp (fun k_ hk_ hs_ => (hk_.1.1.2) hs_)) (fun k_ hk_ => ⟨hk_.1.1.1.2, hk_.1.1.2, hk_.1.2⟩)); have n12_ := Aside0.mk (hb); clear HO_6; clear HO_7; clear HO_11; clear HO_12; clear HO_272001; clear HO_278001; clear BK245; clear BK246; clear BK271; clear BK277; clear HO290; clear HO296; clear HB; have HO_6 := n0_; have HO_7 := n1_; have HO_11 := n2_; have HO_12 := n3_; have HO_272001 := n4_; have HO_278001 := n5_; have BK245 := n6_; have BK246 := n7_; have BK271 := n8_; have BK277 := n9_; have HO290 := n10_; have HO296 := n11_; have HB := n12_; clear n0_ n1_ n2_ n3_ n4_ n5_ n6_ n7_ n8_ n9_ n10_ n11_ n12_; (try clear hb); (try clear hkp); (try clear hy0)) | ((with_reducible refine Arr.gate_load (t := 47) (p := 10) rfl ?_); (try (refine gate_guard (by rfl) ?_; dsimp only)); refine Arr.loadA ?hg (T := 47) (p := 10) ?ho (g := gb277) (off := 0) ?hx (t := 47) (l := ((.bool t272) :: (.slice Ao48 t273.length co48) :: Arr.arL .i8 t276)) (m := ((.bool t272) :: (.slice Ao48 t273.length co48) :: Arr.arL .i8 t276)) (fr := (0, 0)) (show w88.heap[gb277]? = some (.cells (⟨(.bool t272) :: (.slice Ao48 t273.length co48) :: Arr.arL .i8 t276⟩ : Array Value) 47 (0, 0)) from by (with_reducible repeat (first | refine blk_drewN ?_ _ | refine blk_drew ?_ | refine blk_alloc ?_ _)); exact BK277.out) rfl Try.underlying47 rfl (n := 18) (by kernel_rfl) (by simp [Arr.arL_length]) ?_; (case hg => rfl); (case ho => rfl); (case hx => first | (go_simp; done) | rfl | (go_simp; rfl))) | ((with_reducible refine gate_callee (f := 45) rfl ?_); refine goesL_ (some 80) rfl rfl Try.func45 (by kernel_rfl) rfl #[.agg (⟨(.bool t272) :: (.slice Ao48 t273.length co48) :: Arr.arL .i8 t276⟩ : Array Value), .int .i64 t299] rfl (by (try simp only [List.map_toArray, List.map_cons, List.map_nil]); first | done | (go_simp; done) | rfl | (simp only [List.length_drop, List.length_take]; rfl)) ?_; (with_reducible refine (laws_markHalf.calls kj29 t272 (fun k_ => some k_ = (.slice Ao48 t273.length co48 : Value).ownBlock) (.slice Ao48 t273.length co48) t273 t276 t299 t301 t302 w _ ?side1 ?side2 A78.out).mono ?_); (case side1 => repeat (first | (with_reducible first | exact HB.out | apply below_alloc | apply pw_below_drewN | apply below_drew1 | refine below_set ?_ GE245.out | refine below_set ?_ GE246.out | refine below_set ?_ GE271.out | refine below_set ?_ GE277.out) | exact HB.out)); (case side2 => exact Kd.R_tight rfl HO_278001.out); rintro e w89 ⟨rfl, hy0, hb, hkp⟩; refine ⟨_, rfl, ?_⟩; have n0_ := Aside0.mk (Kd.R_mono (ok' := fun k_ => some k_ ≠ (v263 : Value).ownBlock ∧ some k_ ≠ (v279 : Value).ownBlock ∧ some k_ ≠ (v282 : Value).ownBlock) (Kd.R_keptB ((Kd.R_apart' HO_6.out (Kd.R_typed HO_278001.out) (by decide))) hkp (fun k_ hk_ hs_ => (hk_.2) hs_)) (fun k_ hk_ => ⟨hk_.1.1.1, hk_.1.1.2.1, hk_.1.1.2.2⟩)); have n1_ := Aside0.mk (Kd.R_mono (ok' := fun k_ => some k_ ≠ (v260 : Value).ownBlock ∧ some k_ ≠ (v279 : Value).ownBlock ∧ some k_ ≠ (v282 : Value).ownBlock) (Kd.R_keptB ((Kd.R_apart' HO_7.out (Kd.R_typed HO_278001.out) (by decide))) hkp (fun k_ hk_ hs_ => (hk_.2) hs_)) (fun k_ hk_ => ⟨hk_.1.1.1, hk_.1.1.2.1, hk_.1.1.2.2⟩)); have n2_ := Aside0.mk (Kd.R_mono (ok' := fun k_ => some k_ ≠ (v260 : Value).ownBlock ∧ some k_ ≠ (v263 : Value).ownBlock ∧ some k_ ≠ (v282 : Value).ownBlock) (Kd.R_keptB ((Kd.R_apart' HO_11.out (Kd.R_typed HO_278001.out) (by decide))) hkp (fun k_ hk_ hs_ => (hk_.2) hs_)) (fun k_ hk_ => ⟨hk_.1.1.1, hk_.1.1.2.1, hk_.1.1.2.2⟩)); have n3_ := Aside0.mk (Kd.R_mono (ok' := fun k_ => some k_ ≠ (v260 : Value).ownBlock ∧ some k_ ≠ (v263 : Value).ownBlock ∧ some k_ ≠ (v279 : Value).ownBlock) (Kd.R_keptB ((Kd.R_apart' HO_12.out (Kd.R_typed HO_278001.out) (by decide))) hkp (fun k_ hk_ hs_ => (hk_.2) hs_)) (fun k_ hk_ => ⟨hk_.1.1.1, hk_.1.1.2.1, hk_.1.1.2.2⟩)); have n4_ := Aside0.mk (Kd.R_mono (ok' := fun k_ => some k_ ≠ (.slice Ao48 t273.length co48 : Value).ownBlock ∧ some k_ ≠ (.slice Ao82 t288.length co82 : Value).ownBlock ∧ some k_ ≠ (.slice Ao86 t294.length co86 : Value).ownBlock) (Kd.R_keptB (HO_272001.out) hkp (fun k_ hk_ hs_ => (hk_.1.1) hs_)) (fun k_ hk_ => ⟨hk_.1.1.1, hk_.1.1.2, hk_.1.2⟩)); have n5_ := Aside0.mk (Kd.R_reok rfl hy0 (fun k_ e_ => HO_278001.out.1 k_ e_)); have n6_ := Aside0.mk (blk_kept (by (with_reducible repeat (first | refine blk_drewN ?_ _ | refine blk_drew ?_ | refine blk_alloc ?_ _)); exact BK245.out) hkp (fun hs_ => (fun e_ => (Kd.R_ne HO_278001.out BK245.out (by decide)) e_) hs_)); have n7_ := Aside0.mk (blk_kept (by (with_reducible repeat (first | refine blk_drewN ?_ _ | refine blk_drew ?_ | refine blk_alloc ?_ _)); exact BK246.out) hkp (fun hs_ => (fun e_ => (Kd.R_ne HO_278001.out BK246.out (by decide)) e_) hs_)); have n8_ := Aside0.mk (blk_kept (by (with_reducible repeat (first | refine blk_drewN ?_ _ | refine blk_drew ?_ | refine blk_alloc ?_ _)); exact BK271.out) hkp (fun hs_ => (fun e_ => (Kd.R_ne HO_278001.out BK271.out (by decide)) e_) hs_)); have n9_ := Aside0.mk (blk_kept (by (with_reducible repeat (first | refine blk_drewN ?_ _ | refine blk_drew ?_ | refine blk_alloc ?_ _)); exact BK277.out) hkp (fun hs_ => (fun e_ => (Kd.R_ne HO_278001.out BK277.out (by decide)) e_) hs_)); have n10_ := Aside0.mk (Kd.R_mono (ok' := fun k_ => some k_ ≠ (.slice Ao44 t267.length co44 : Value).ownBlock ∧ some k_ ≠ (.slice Ao48 t273.length co48 : Value).ownBlock ∧ some k_ ≠ (.slice Ao86 t294.length co86 : Value).ownBlock) (Kd.R_keptB (HO290.out) hkp (fun k_ hk_ hs_ => (hk_.2.1) hs_)) (fun k_ hk_ => ⟨hk_.1.1, hk_.1.2.1, hk_.1.2.2⟩)); have n11_ := Aside0.mk (Kd.R_mono (ok' := fun k_ => some k_ ≠ (.slice Ao44 t267.length co44 : Value).ownBlock ∧ some k_ ≠ (.slice Ao48 t273.length co48 : Value).ownBlock ∧ some k_ ≠ (.slice Ao82 t288.length co82 : Value).ownBlock) (Kd.R_keptB (HO296.out) hkp (fun k_ hk_ hs_ => (hk_.2.1) hs_)) (fun k_ hk_ => ⟨hk_.1.1, hk_.1.2.1, hk_.1.2.2⟩)); have n12_ := Aside0.mk (hb); clear HO_6; clear HO_7; clear HO_11; clear HO_12; clear HO_272001; clear HO_278001; clear BK245; clear BK246; clear BK271; clear BK277; clear HO290; clear HO296; clear HB; have HO_6 := n0_; have HO_7 := n1_; have HO_11 := n2_; have HO_12 := n3_; have HO_272001 := n4_; have HO_278001 := n5_; have BK245 := n6_; have BK246 := n7_; have BK271 := n8_; have BK277 := n9_; have HO290 := n10_; have HO296 := n11_; have HB := n12_; clear n0_ n1_ n2_ n3_ n4_ n5_ n6_ n7_ n8_ n9_ n10_ n11_ n12_; (try clear hb); (try clear hkp); (try clear hy0)))
            (try simp only [Act.put, List.setIfInBounds_toArray, List.set_cons_zero, List.set_cons_succ])
            go_cut [99] (fun v99 wc => ∃ (kq : Nat) (x99_78 : Bool), v99 = .bool x99_78 ∧ Aside0 (laws_FnExactMisfitsOf.j1 kq t259 t262 t265 t278 t281 x99_78 a0_0 l0_1 a0_2 a1_0 l1_1 a1_2 = some r) ∧ Aside0 (kq ≤ kj29) ∧ Aside0 (Kd.R (Kd.int .i64) 2 wc w.heap.size (fun k_ => some k_ ≠ (v263 : Value).ownBlock ∧ some k_ ≠ (v279 : Value).ownBlock ∧ some k_ ≠ (v282 : Value).ownBlock) v260 t259) ∧ Aside0 (Kd.R (Kd.int .i64) 2 wc w.heap.size (fun k_ => some k_ ≠ (v260 : Value).ownBlock ∧ some k_ ≠ (v279 : Value).ownBlock ∧ some k_ ≠ (v282 : Value).ownBlock) v263 t262) ∧ Aside0 (Kd.R (Kd.int .i64) 2 wc w.heap.size (fun k_ => some k_ ≠ (v260 : Value).ownBlock ∧ some k_ ≠ (v263 : Value).ownBlock ∧ some k_ ≠ (v282 : Value).ownBlock) v279 t278) ∧ Aside0 (Kd.R (Kd.int .i64) 2 wc w.heap.size (fun k_ => some k_ ≠ (v260 : Value).ownBlock ∧ some k_ ≠ (v263 : Value).ownBlock ∧ some k_ ≠ (v279 : Value).ownBlock) v282 t281) ∧ Aside0 (Kd.R k77 77 wc w.heap.size (fun k_ => some k_ ≠ ((.slice Ao48 t273.length co48) : Value).ownBlock) (.slice Ao44 t267.length co44) t300) ∧ Aside0 (Kd.R k77 77 wc w.heap.size (fun k_ => some k_ ≠ ((.slice Ao44 t267.length co44) : Value).ownBlock) (.slice Ao48 t273.length co48) t302) ∧ Aside0 (wc.heap[gb245]? = some (.cells (⟨(.bool a0_0) :: ((.slice A0_1 l0_1.length c0_1)) :: Arr.arL .i8 a0_2⟩ : Array Value) 42 (0, 0))) ∧ Aside0 (wc.heap[gb246]? = some (.cells (⟨(.bool a1_0) :: ((.slice A1_1 l1_1.length c1_1)) :: Arr.arL .i8 a1_2⟩ : Array Value) 42 (0, 0))) ∧ Aside0 (wc.heap[gb271]? = some (.cells (⟨(.bool t266) :: ((.slice Ao44 t267.length co44)) :: Arr.arL .i8 t270⟩ : Array Value) 47 (0, 0))) ∧ Aside0 (wc.heap[gb277]? = some (.cells (⟨(.bool t272) :: ((.slice Ao48 t273.length co48)) :: Arr.arL .i8 t276⟩ : Array Value) 47 (0, 0))) ∧ Aside0 (Below w.heap.size w wc))
            case first =>
              have H := HC79.out
              clear HC79
              by_cases c90 : t301 < 0
              · rw [if_pos c90] at H
                have c90b0 : decide (t301 < 0) = true := decide_eq_true c90
                clear c90
                (first | rw [c90b0] | (simp only [i64_w, i32_w]; rw [c90b0]) | skip)
                have H' := Aside0.mk H
                clear H
                go_wp2
                go_meet
                case rel => exact ⟨_, (true), (by first | rfl | (simp; done) | (simp [*]; done)), H', ⟨by have := HJ29.out; first | omega | exact Nat.le_refl _⟩, ⟨by (with_reducible repeat (first | apply Kd.R_alloc | apply Kd.R_drewN | apply Kd.R_drew)); exact HO_6.out⟩, ⟨by (with_reducible repeat (first | apply Kd.R_alloc | apply Kd.R_drewN | apply Kd.R_drew)); exact HO_7.out⟩, ⟨by (with_reducible repeat (first | apply Kd.R_alloc | apply Kd.R_drewN | apply Kd.R_drew)); exact HO_11.out⟩, ⟨by (with_reducible repeat (first | apply Kd.R_alloc | apply Kd.R_drewN | apply Kd.R_drew)); exact HO_12.out⟩, ⟨by (with_reducible repeat (first | apply Kd.R_alloc | apply Kd.R_drewN | apply Kd.R_drew)); exact Kd.R_mono HO_272001.out (fun _ hk => hk.1)⟩, ⟨by (with_reducible repeat (first | apply Kd.R_alloc | apply Kd.R_drewN | apply Kd.R_drew)); exact Kd.R_mono HO_278001.out (fun _ hk => hk.1)⟩, ⟨by (with_reducible repeat (first | refine blk_drewN ?_ _ | refine blk_drew ?_ | refine blk_alloc ?_ _)); exact BK245.out⟩, ⟨by (with_reducible repeat (first | refine blk_drewN ?_ _ | refine blk_drew ?_ | refine blk_alloc ?_ _)); exact BK246.out⟩, ⟨by (with_reducible repeat (first | refine blk_drewN ?_ _ | refine blk_drew ?_ | refine blk_alloc ?_ _)); exact BK271.out⟩, ⟨by (with_reducible repeat (first | refine blk_drewN ?_ _ | refine blk_drew ?_ | refine blk_alloc ?_ _)); exact BK277.out⟩, ⟨by repeat (first | (with_reducible first | exact HB.out | apply below_alloc | apply pw_below_drewN | apply below_drew1 | refine below_set ?_ GE245.out | refine below_set ?_ GE246.out | refine below_set ?_ GE271.out | refine below_set ?_ GE277.out) | exact HB.out)⟩⟩
              · rw [if_neg c90] at H
                have c90b0 : decide (t301 < 0) = false := decide_eq_false c90
                clear c90
                (first | rw [c90b0] | (simp only [i64_w, i32_w]; rw [c90b0]) | skip)
                replace H := Option.bind_eq_some_iff.mp H
                obtain ⟨t303, A910, H⟩ := H
                replace H : (if t303 = true then ((laws_eqInt64S.f kj29 t281 t262).bind fun t304 => (if t304 = true then (laws_FnExactMisfitsOf.j1 kj29 t259 t262 t265 t278 t281 (t284 != t265) a0_0 l0_1 a0_2 a1_0 l1_1 a1_2) else (laws_FnExactMisfitsOf.j1 kj29 t259 t262 t265 t278 t281 true a0_0 l0_1 a0_2 a1_0 l1_1 a1_2))) else (laws_FnExactMisfitsOf.j1 kj29 t259 t262 t265 t278 t281 true a0_0 l0_1 a0_2 a1_0 l1_1 a1_2)) = some r := H
                have A91 := Aside0.mk A910
                clear A910
                by_cases c92 : t303 = true
                · subst c92
                  have H1 : ((laws_eqInt64S.f kj29 t281 t262).bind fun t304 => (if t304 = true then (laws_FnExactMisfitsOf.j1 kj29 t259 t262 t265 t278 t281 (t284 != t265) a0_0 l0_1 a0_2 a1_0 l1_1 a1_2) else (laws_FnExactMisfitsOf.j1 kj29 t259 t262 t265 t278 t281 true a0_0 l0_1 a0_2 a1_0 l1_1 a1_2))) = some r := by rw [if_pos rfl] at H; exact H
                  clear H
                  have H := H1
                  clear H1
                  replace H := Option.bind_eq_some_iff.mp H
                  obtain ⟨t304, A930, H⟩ := H
                  replace H : (if t304 = true then (laws_FnExactMisfitsOf.j1 kj29 t259 t262 t265 t278 t281 (t284 != t265) a0_0 l0_1 a0_2 a1_0 l1_1 a1_2) else (laws_FnExactMisfitsOf.j1 kj29 t259 t262 t265 t278 t281 true a0_0 l0_1 a0_2 a1_0 l1_1 a1_2)) = some r := H
                  have A93 := Aside0.mk A930
                  clear A930
                  by_cases c94 : t304 = true
                  · subst c94
                    have H1 : (laws_FnExactMisfitsOf.j1 kj29 t259 t262 t265 t278 t281 (t284 != t265) a0_0 l0_1 a0_2 a1_0 l1_1 a1_2) = some r := by rw [if_pos rfl] at H; exact H
                    clear H
                    have H := H1
                    clear H1
                    have H' := Aside0.mk H
                    clear H
                    obtain ⟨Ao95, co95, eo95⟩ := Kd.R_slice HO_11.out
                    subst eo95
                    obtain ⟨Ao96, co96, eo96⟩ := Kd.R_slice HO_6.out
                    subst eo96
                    go_wp2_with (first | (go_at_call 44; (with_reducible refine (laws_eqInt64S.calls kj29 _ _ t278 _ _ t259 true _ ?side1 ?side2 ?side3 ?side4 A91.out).mono ?_); (case side1 => repeat (first | exact (Kd.R_reads' HO_11.out).2.2 | (with_reducible refine Kd.C_alloc ?_ _) | (with_reducible refine Kd.C_drewN ?_ _) | (with_reducible refine Kd.C_drew ?_))); (case side2 => exact (Kd.R_reads' HO_11.out).2.1); (case side3 => repeat (first | exact (Kd.R_reads' HO_6.out).2.2 | (with_reducible refine Kd.C_alloc ?_ _) | (with_reducible refine Kd.C_drewN ?_ _) | (with_reducible refine Kd.C_drew ?_))); (case side4 => exact (Kd.R_reads' HO_6.out).2.1); rintro e w' ⟨rfl, ⟨nd, rfl⟩⟩; obtain ⟨Ao97, co97, eo97⟩ := Kd.R_slice HO_12.out; subst eo97; obtain ⟨Ao98, co98, eo98⟩ := Kd.R_slice HO_7.out; subst eo98) | (go_at_call 44; (with_reducible refine (laws_eqInt64S.calls kj29 _ _ t281 _ _ t262 true _ ?side1 ?side2 ?side3 ?side4 A93.out).mono ?_); (case side1 => repeat (first | exact (Kd.R_reads' HO_12.out).2.2 | (with_reducible refine Kd.C_alloc ?_ _) | (with_reducible refine Kd.C_drewN ?_ _) | (with_reducible refine Kd.C_drew ?_))); (case side2 => exact (Kd.R_reads' HO_12.out).2.1); (case side3 => repeat (first | exact (Kd.R_reads' HO_7.out).2.2 | (with_reducible refine Kd.C_alloc ?_ _) | (with_reducible refine Kd.C_drewN ?_ _) | (with_reducible refine Kd.C_drew ?_))); (case side4 => exact (Kd.R_reads' HO_7.out).2.1); rintro e w' ⟨rfl, ⟨nd, rfl⟩⟩))
                    go_meet
                    case rel => exact ⟨_, ((t284 != t265)), (by first | rfl | (simp; done) | (simp [*]; done)), H', ⟨by have := HJ29.out; first | omega | exact Nat.le_refl _⟩, ⟨by (with_reducible repeat (first | apply Kd.R_alloc | apply Kd.R_drewN | apply Kd.R_drew)); exact HO_6.out⟩, ⟨by (with_reducible repeat (first | apply Kd.R_alloc | apply Kd.R_drewN | apply Kd.R_drew)); exact HO_7.out⟩, ⟨by (with_reducible repeat (first | apply Kd.R_alloc | apply Kd.R_drewN | apply Kd.R_drew)); exact HO_11.out⟩, ⟨by (with_reducible repeat (first | apply Kd.R_alloc | apply Kd.R_drewN | apply Kd.R_drew)); exact HO_12.out⟩, ⟨by (with_reducible repeat (first | apply Kd.R_alloc | apply Kd.R_drewN | apply Kd.R_drew)); exact Kd.R_mono HO_272001.out (fun _ hk => hk.1)⟩, ⟨by (with_reducible repeat (first | apply Kd.R_alloc | apply Kd.R_drewN | apply Kd.R_drew)); exact Kd.R_mono HO_278001.out (fun _ hk => hk.1)⟩, ⟨by (with_reducible repeat (first | refine blk_drewN ?_ _ | refine blk_drew ?_ | refine blk_alloc ?_ _)); exact BK245.out⟩, ⟨by (with_reducible repeat (first | refine blk_drewN ?_ _ | refine blk_drew ?_ | refine blk_alloc ?_ _)); exact BK246.out⟩, ⟨by (with_reducible repeat (first | refine blk_drewN ?_ _ | refine blk_drew ?_ | refine blk_alloc ?_ _)); exact BK271.out⟩, ⟨by (with_reducible repeat (first | refine blk_drewN ?_ _ | refine blk_drew ?_ | refine blk_alloc ?_ _)); exact BK277.out⟩, ⟨by repeat (first | (with_reducible first | exact HB.out | apply below_alloc | apply pw_below_drewN | apply below_drew1 | refine below_set ?_ GE245.out | refine below_set ?_ GE246.out | refine below_set ?_ GE271.out | refine below_set ?_ GE277.out) | exact HB.out)⟩⟩
                  · replace c94 := Bool.eq_false_iff.mpr c94
                    subst c94
                    have H1 : (laws_FnExactMisfitsOf.j1 kj29 t259 t262 t265 t278 t281 true a0_0 l0_1 a0_2 a1_0 l1_1 a1_2) = some r := by rw [if_neg (show ¬ (false = true) by decide)] at H; exact H
                    clear H
                    have H := H1
                    clear H1
                    have H' := Aside0.mk H
                    clear H
                    obtain ⟨Ao99, co99, eo99⟩ := Kd.R_slice HO_11.out
                    subst eo99
                    obtain ⟨Ao100, co100, eo100⟩ := Kd.R_slice HO_6.out
                    subst eo100
                    go_wp2_with (first | (go_at_call 44; (with_reducible refine (laws_eqInt64S.calls kj29 _ _ t278 _ _ t259 true _ ?side1 ?side2 ?side3 ?side4 A91.out).mono ?_); (case side1 => repeat (first | exact (Kd.R_reads' HO_11.out).2.2 | (with_reducible refine Kd.C_alloc ?_ _) | (with_reducible refine Kd.C_drewN ?_ _) | (with_reducible refine Kd.C_drew ?_))); (case side2 => exact (Kd.R_reads' HO_11.out).2.1); (case side3 => repeat (first | exact (Kd.R_reads' HO_6.out).2.2 | (with_reducible refine Kd.C_alloc ?_ _) | (with_reducible refine Kd.C_drewN ?_ _) | (with_reducible refine Kd.C_drew ?_))); (case side4 => exact (Kd.R_reads' HO_6.out).2.1); rintro e w' ⟨rfl, ⟨nd, rfl⟩⟩; obtain ⟨Ao101, co101, eo101⟩ := Kd.R_slice HO_12.out; subst eo101; obtain ⟨Ao102, co102, eo102⟩ := Kd.R_slice HO_7.out; subst eo102) | (go_at_call 44; (with_reducible refine (laws_eqInt64S.calls kj29 _ _ t281 _ _ t262 false _ ?side1 ?side2 ?side3 ?side4 A93.out).mono ?_); (case side1 => repeat (first | exact (Kd.R_reads' HO_12.out).2.2 | (with_reducible refine Kd.C_alloc ?_ _) | (with_reducible refine Kd.C_drewN ?_ _) | (with_reducible refine Kd.C_drew ?_))); (case side2 => exact (Kd.R_reads' HO_12.out).2.1); (case side3 => repeat (first | exact (Kd.R_reads' HO_7.out).2.2 | (with_reducible refine Kd.C_alloc ?_ _) | (with_reducible refine Kd.C_drewN ?_ _) | (with_reducible refine Kd.C_drew ?_))); (case side4 => exact (Kd.R_reads' HO_7.out).2.1); rintro e w' ⟨rfl, ⟨nd, rfl⟩⟩))
                    go_meet
                    case rel => exact ⟨_, (true), (by first | rfl | (simp; done) | (simp [*]; done)), H', ⟨by have := HJ29.out; first | omega | exact Nat.le_refl _⟩, ⟨by (with_reducible repeat (first | apply Kd.R_alloc | apply Kd.R_drewN | apply Kd.R_drew)); exact HO_6.out⟩, ⟨by (with_reducible repeat (first | apply Kd.R_alloc | apply Kd.R_drewN | apply Kd.R_drew)); exact HO_7.out⟩, ⟨by (with_reducible repeat (first | apply Kd.R_alloc | apply Kd.R_drewN | apply Kd.R_drew)); exact HO_11.out⟩, ⟨by (with_reducible repeat (first | apply Kd.R_alloc | apply Kd.R_drewN | apply Kd.R_drew)); exact HO_12.out⟩, ⟨by (with_reducible repeat (first | apply Kd.R_alloc | apply Kd.R_drewN | apply Kd.R_drew)); exact Kd.R_mono HO_272001.out (fun _ hk => hk.1)⟩, ⟨by (with_reducible repeat (first | apply Kd.R_alloc | apply Kd.R_drewN | apply Kd.R_drew)); exact Kd.R_mono HO_278001.out (fun _ hk => hk.1)⟩, ⟨by (with_reducible repeat (first | refine blk_drewN ?_ _ | refine blk_drew ?_ | refine blk_alloc ?_ _)); exact BK245.out⟩, ⟨by (with_reducible repeat (first | refine blk_drewN ?_ _ | refine blk_drew ?_ | refine blk_alloc ?_ _)); exact BK246.out⟩, ⟨by (with_reducible repeat (first | refine blk_drewN ?_ _ | refine blk_drew ?_ | refine blk_alloc ?_ _)); exact BK271.out⟩, ⟨by (with_reducible repeat (first | refine blk_drewN ?_ _ | refine blk_drew ?_ | refine blk_alloc ?_ _)); exact BK277.out⟩, ⟨by repeat (first | (with_reducible first | exact HB.out | apply below_alloc | apply pw_below_drewN | apply below_drew1 | refine below_set ?_ GE245.out | refine below_set ?_ GE246.out | refine below_set ?_ GE271.out | refine below_set ?_ GE277.out) | exact HB.out)⟩⟩
                · replace c92 := Bool.eq_false_iff.mpr c92
                  subst c92
                  have H1 : (laws_FnExactMisfitsOf.j1 kj29 t259 t262 t265 t278 t281 true a0_0 l0_1 a0_2 a1_0 l1_1 a1_2) = some r := by rw [if_neg (show ¬ (false = true) by decide)] at H; exact H
                  clear H
                  have H := H1
                  clear H1
                  have H' := Aside0.mk H
                  clear H
                  obtain ⟨Ao103, co103, eo103⟩ := Kd.R_slice HO_11.out
                  subst eo103
                  obtain ⟨Ao104, co104, eo104⟩ := Kd.R_slice HO_6.out
                  subst eo104
                  go_wp2_with (first | (go_at_call 44; (with_reducible refine (laws_eqInt64S.calls kj29 _ _ t278 _ _ t259 false _ ?side1 ?side2 ?side3 ?side4 A91.out).mono ?_); (case side1 => repeat (first | exact (Kd.R_reads' HO_11.out).2.2 | (with_reducible refine Kd.C_alloc ?_ _) | (with_reducible refine Kd.C_drewN ?_ _) | (with_reducible refine Kd.C_drew ?_))); (case side2 => exact (Kd.R_reads' HO_11.out).2.1); (case side3 => repeat (first | exact (Kd.R_reads' HO_6.out).2.2 | (with_reducible refine Kd.C_alloc ?_ _) | (with_reducible refine Kd.C_drewN ?_ _) | (with_reducible refine Kd.C_drew ?_))); (case side4 => exact (Kd.R_reads' HO_6.out).2.1); rintro e w' ⟨rfl, ⟨nd, rfl⟩⟩))
                  go_meet
                  case rel => exact ⟨_, (true), (by first | rfl | (simp; done) | (simp [*]; done)), H', ⟨by have := HJ29.out; first | omega | exact Nat.le_refl _⟩, ⟨by (with_reducible repeat (first | apply Kd.R_alloc | apply Kd.R_drewN | apply Kd.R_drew)); exact HO_6.out⟩, ⟨by (with_reducible repeat (first | apply Kd.R_alloc | apply Kd.R_drewN | apply Kd.R_drew)); exact HO_7.out⟩, ⟨by (with_reducible repeat (first | apply Kd.R_alloc | apply Kd.R_drewN | apply Kd.R_drew)); exact HO_11.out⟩, ⟨by (with_reducible repeat (first | apply Kd.R_alloc | apply Kd.R_drewN | apply Kd.R_drew)); exact HO_12.out⟩, ⟨by (with_reducible repeat (first | apply Kd.R_alloc | apply Kd.R_drewN | apply Kd.R_drew)); exact Kd.R_mono HO_272001.out (fun _ hk => hk.1)⟩, ⟨by (with_reducible repeat (first | apply Kd.R_alloc | apply Kd.R_drewN | apply Kd.R_drew)); exact Kd.R_mono HO_278001.out (fun _ hk => hk.1)⟩, ⟨by (with_reducible repeat (first | refine blk_drewN ?_ _ | refine blk_drew ?_ | refine blk_alloc ?_ _)); exact BK245.out⟩, ⟨by (with_reducible repeat (first | refine blk_drewN ?_ _ | refine blk_drew ?_ | refine blk_alloc ?_ _)); exact BK246.out⟩, ⟨by (with_reducible repeat (first | refine blk_drewN ?_ _ | refine blk_drew ?_ | refine blk_alloc ?_ _)); exact BK271.out⟩, ⟨by (with_reducible repeat (first | refine blk_drewN ?_ _ | refine blk_drew ?_ | refine blk_alloc ?_ _)); exact BK277.out⟩, ⟨by repeat (first | (with_reducible first | exact HB.out | apply below_alloc | apply pw_below_drewN | apply below_drew1 | refine below_set ?_ GE245.out | refine below_set ?_ GE246.out | refine below_set ?_ GE271.out | refine below_set ?_ GE277.out) | exact HB.out)⟩⟩
            case rest =>
              clear HC79
              try clear c1
              try clear c2
              try clear p2
              try clear c3
              try clear c4
              try clear c5
              try clear c5b0
              try clear c6
              try clear c7
              try clear c9
              try clear c11
              try clear c11b0
              try clear c14
              try clear c27
              try clear c29
              try clear c31
              try clear c42
              try clear c43
              try clear c44
              try clear c45
              try clear c51
              try clear c53
              try clear c64
              try clear c69
              try clear c74
              try clear c90
              try clear c90b0
              try clear c92
              try clear c94
              try clear p2
              obtain ⟨kq, x99_78, rfl, HA, HJ78, HO_6, HO_7, HO_11, HO_12, HO_272001, HO_278001, BK245, BK246, BK271, BK277, HB⟩ := hcut
              have hl272001_78 := (Kd.R_reads' HO_272001.out).1
              rw [hl272001_78] at HO_272001
              (try simp only [hl272001_78])
              (try simp only [hl272001_78] at BK245)
              (try simp only [hl272001_78] at BK246)
              (try simp only [hl272001_78] at BK271)
              (try simp only [hl272001_78] at BK277)
              (try simp only [hl272001_78] at HO_6)
              (try simp only [hl272001_78] at HO_7)
              (try simp only [hl272001_78] at HO_11)
              (try simp only [hl272001_78] at HO_12)
              (try simp only [hl272001_78] at HO_278001)
              have hl278001_78 := (Kd.R_reads' HO_278001.out).1
              rw [hl278001_78] at HO_278001
              (try simp only [hl278001_78])
              (try simp only [hl278001_78] at BK245)
              (try simp only [hl278001_78] at BK246)
              (try simp only [hl278001_78] at BK271)
              (try simp only [hl278001_78] at BK277)
              (try simp only [hl278001_78] at HO_6)
              (try simp only [hl278001_78] at HO_7)
              (try simp only [hl278001_78] at HO_11)
              (try simp only [hl278001_78] at HO_12)
              (try simp only [hl278001_78] at HO_272001)
              cases kq with
              | zero => exact absurd HA.out (by simp [laws_FnExactMisfitsOf.j1])
              | succ kj78 =>
                have H := HA.out
                clear HA
                simp only [laws_FnExactMisfitsOf.j1] at H
                by_cases c105 : x99_78 = true
                · subst c105
                  have H1 : (some false) = some r := by rw [if_pos rfl] at H; exact H
                  clear H
                  have H := H1
                  clear H1
                  obtain rfl := Option.some.inj H
                  cases ht
                · replace c105 := Bool.eq_false_iff.mpr c105
                  subst c105
                  have H1 : ((laws_markInt64S.f kj78 t278 1).bind fun bt305 => ((laws_markInt64S.f kj78 t281 bt305.1).bind fun bt307 => ((laws_heldInt64S.f kj78 bt305.2 1).bind fun t309 => (if t309 < 0 then (some false) else ((laws_heldInt64S.f kj78 bt307.2 t309).bind fun t310 => (if t310 < 0 then (some false) else (if t310 = bt307.1 then ((laws_toHalf.f kj78 a0_0 l0_1 a0_2).bind fun bt311 => ((laws_toHalf.f kj78 a1_0 l1_1 a1_2).bind fun bt316 => ((impl_MisfitsOf.f kj78 bt311.1 bt311.2.1 bt311.2.2 bt316.1 bt316.2.1 bt316.2.2).bind fun bt321 => ((laws_eqInt64S.f kj78 bt321.1 t259).bind fun t328 => (if t328 = true then ((laws_eqInt64S.f kj78 bt321.2.1 t262).bind fun t329 => (if t329 = true then (laws_FnExactMisfitsOf.j2 kj78 bt305.2 bt307.2 bt307.1 (bt321.2.2 != t265)) else (laws_FnExactMisfitsOf.j2 kj78 bt305.2 bt307.2 bt307.1 true))) else (laws_FnExactMisfitsOf.j2 kj78 bt305.2 bt307.2 bt307.1 true)))))) else (some false)))))))) = some r := by rw [if_neg (show ¬ (false = true) by decide)] at H; exact H
                  clear H
                  have H := H1
                  clear H1
                  replace H := Option.bind_eq_some_iff.mp H
                  obtain ⟨⟨t305, t306⟩, A1060, H⟩ := H
                  replace H : ((laws_markInt64S.f kj78 t281 t305).bind fun bt307 => ((laws_heldInt64S.f kj78 t306 1).bind fun t309 => (if t309 < 0 then (some false) else ((laws_heldInt64S.f kj78 bt307.2 t309).bind fun t310 => (if t310 < 0 then (some false) else (if t310 = bt307.1 then ((laws_toHalf.f kj78 a0_0 l0_1 a0_2).bind fun bt311 => ((laws_toHalf.f kj78 a1_0 l1_1 a1_2).bind fun bt316 => ((impl_MisfitsOf.f kj78 bt311.1 bt311.2.1 bt311.2.2 bt316.1 bt316.2.1 bt316.2.2).bind fun bt321 => ((laws_eqInt64S.f kj78 bt321.1 t259).bind fun t328 => (if t328 = true then ((laws_eqInt64S.f kj78 bt321.2.1 t262).bind fun t329 => (if t329 = true then (laws_FnExactMisfitsOf.j2 kj78 t306 bt307.2 bt307.1 (bt321.2.2 != t265)) else (laws_FnExactMisfitsOf.j2 kj78 t306 bt307.2 bt307.1 true))) else (laws_FnExactMisfitsOf.j2 kj78 t306 bt307.2 bt307.1 true)))))) else (some false))))))) = some r := H
                  have A106 := Aside0.mk A1060
                  clear A1060
                  replace H := Option.bind_eq_some_iff.mp H
                  obtain ⟨⟨t307, t308⟩, A1070, H⟩ := H
                  replace H : ((laws_heldInt64S.f kj78 t306 1).bind fun t309 => (if t309 < 0 then (some false) else ((laws_heldInt64S.f kj78 t308 t309).bind fun t310 => (if t310 < 0 then (some false) else (if t310 = t307 then ((laws_toHalf.f kj78 a0_0 l0_1 a0_2).bind fun bt311 => ((laws_toHalf.f kj78 a1_0 l1_1 a1_2).bind fun bt316 => ((impl_MisfitsOf.f kj78 bt311.1 bt311.2.1 bt311.2.2 bt316.1 bt316.2.1 bt316.2.2).bind fun bt321 => ((laws_eqInt64S.f kj78 bt321.1 t259).bind fun t328 => (if t328 = true then ((laws_eqInt64S.f kj78 bt321.2.1 t262).bind fun t329 => (if t329 = true then (laws_FnExactMisfitsOf.j2 kj78 t306 t308 t307 (bt321.2.2 != t265)) else (laws_FnExactMisfitsOf.j2 kj78 t306 t308 t307 true))) else (laws_FnExactMisfitsOf.j2 kj78 t306 t308 t307 true)))))) else (some false)))))) = some r := H
                  have A107 := Aside0.mk A1070
                  clear A1070
                  replace H := Option.bind_eq_some_iff.mp H
                  obtain ⟨t309, A1080, H⟩ := H
                  replace H : (if t309 < 0 then (some false) else ((laws_heldInt64S.f kj78 t308 t309).bind fun t310 => (if t310 < 0 then (some false) else (if t310 = t307 then ((laws_toHalf.f kj78 a0_0 l0_1 a0_2).bind fun bt311 => ((laws_toHalf.f kj78 a1_0 l1_1 a1_2).bind fun bt316 => ((impl_MisfitsOf.f kj78 bt311.1 bt311.2.1 bt311.2.2 bt316.1 bt316.2.1 bt316.2.2).bind fun bt321 => ((laws_eqInt64S.f kj78 bt321.1 t259).bind fun t328 => (if t328 = true then ((laws_eqInt64S.f kj78 bt321.2.1 t262).bind fun t329 => (if t329 = true then (laws_FnExactMisfitsOf.j2 kj78 t306 t308 t307 (bt321.2.2 != t265)) else (laws_FnExactMisfitsOf.j2 kj78 t306 t308 t307 true))) else (laws_FnExactMisfitsOf.j2 kj78 t306 t308 t307 true)))))) else (some false))))) = some r := H
                  have A108 := Aside0.mk A1080
                  clear A1080
                  by_cases c109 : t309 < 0
                  · rw [if_pos c109] at H
                    have c109b0 : decide (t309 < 0) = true := decide_eq_true c109
                    clear c109
                    obtain rfl := Option.some.inj H
                    cases ht
                  · rw [if_neg c109] at H
                    have c109b0 : decide (t309 < 0) = false := decide_eq_false c109
                    clear c109
                    replace H := Option.bind_eq_some_iff.mp H
                    obtain ⟨t310, A1100, H⟩ := H
                    replace H : (if t310 < 0 then (some false) else (if t310 = t307 then ((laws_toHalf.f kj78 a0_0 l0_1 a0_2).bind fun bt311 => ((laws_toHalf.f kj78 a1_0 l1_1 a1_2).bind fun bt316 => ((impl_MisfitsOf.f kj78 bt311.1 bt311.2.1 bt311.2.2 bt316.1 bt316.2.1 bt316.2.2).bind fun bt321 => ((laws_eqInt64S.f kj78 bt321.1 t259).bind fun t328 => (if t328 = true then ((laws_eqInt64S.f kj78 bt321.2.1 t262).bind fun t329 => (if t329 = true then (laws_FnExactMisfitsOf.j2 kj78 t306 t308 t307 (bt321.2.2 != t265)) else (laws_FnExactMisfitsOf.j2 kj78 t306 t308 t307 true))) else (laws_FnExactMisfitsOf.j2 kj78 t306 t308 t307 true)))))) else (some false))) = some r := H
                    have A110 := Aside0.mk A1100
                    clear A1100
                    by_cases c111 : t310 < 0
                    · rw [if_pos c111] at H
                      have c111b0 : decide (t310 < 0) = true := decide_eq_true c111
                      clear c111
                      obtain rfl := Option.some.inj H
                      cases ht
                    · rw [if_neg c111] at H
                      have c111b0 : decide (t310 < 0) = false := decide_eq_false c111
                      clear c111
                      by_cases c112 : t310 = t307
                      · rw [if_pos c112] at H
                        have c112b0 : (t310 == t307) = true := beq_iff_eq.mpr c112
                        have c112b1 : (t310 != t307) = false := bne_eq_false_iff_eq.mpr c112
                        clear c112
                        replace H := Option.bind_eq_some_iff.mp H
                        obtain ⟨⟨t311, t312, t315⟩, A1140, H⟩ := H
                        replace H : ((laws_toHalf.f kj78 a1_0 l1_1 a1_2).bind fun bt316 => ((impl_MisfitsOf.f kj78 t311 t312 t315 bt316.1 bt316.2.1 bt316.2.2).bind fun bt321 => ((laws_eqInt64S.f kj78 bt321.1 t259).bind fun t328 => (if t328 = true then ((laws_eqInt64S.f kj78 bt321.2.1 t262).bind fun t329 => (if t329 = true then (laws_FnExactMisfitsOf.j2 kj78 t306 t308 t307 (bt321.2.2 != t265)) else (laws_FnExactMisfitsOf.j2 kj78 t306 t308 t307 true))) else (laws_FnExactMisfitsOf.j2 kj78 t306 t308 t307 true))))) = some r := H
                        have A114 := Aside0.mk A1140
                        clear A1140
                        replace H := Option.bind_eq_some_iff.mp H
                        obtain ⟨⟨t316, t317, t320⟩, A1160, H⟩ := H
                        replace H : ((impl_MisfitsOf.f kj78 t311 t312 t315 t316 t317 t320).bind fun bt321 => ((laws_eqInt64S.f kj78 bt321.1 t259).bind fun t328 => (if t328 = true then ((laws_eqInt64S.f kj78 bt321.2.1 t262).bind fun t329 => (if t329 = true then (laws_FnExactMisfitsOf.j2 kj78 t306 t308 t307 (bt321.2.2 != t265)) else (laws_FnExactMisfitsOf.j2 kj78 t306 t308 t307 true))) else (laws_FnExactMisfitsOf.j2 kj78 t306 t308 t307 true)))) = some r := H
                        have A116 := Aside0.mk A1160
                        clear A1160
                        replace H := Option.bind_eq_some_iff.mp H
                        obtain ⟨⟨t321, t324, t327⟩, A1170, H⟩ := H
                        replace H : ((laws_eqInt64S.f kj78 t321 t259).bind fun t328 => (if t328 = true then ((laws_eqInt64S.f kj78 t324 t262).bind fun t329 => (if t329 = true then (laws_FnExactMisfitsOf.j2 kj78 t306 t308 t307 (t327 != t265)) else (laws_FnExactMisfitsOf.j2 kj78 t306 t308 t307 true))) else (laws_FnExactMisfitsOf.j2 kj78 t306 t308 t307 true))) = some r := H
                        have A117 := Aside0.mk A1170
                        clear A1170
                        have HC118 := Aside0.mk H
                        clear H
                        obtain ⟨Ao119, co119, eo119⟩ := Kd.R_slice HO_11.out
                        subst eo119
                        try go_wp2_with (first | ((with_reducible refine gate_callee (f := 46) rfl ?_); refine goesL_ (some 102) rfl rfl Try.func46 (by kernel_rfl) rfl #[.slice Ao119 t278.length co119, .int .i64 1] rfl (by (try simp only [List.map_toArray, List.map_cons, List.map_nil]); first | done | (go_simp; done) | rfl | (simp only [List.length_drop, List.length_take]; rfl)) ?_; (with_reducible refine (laws_markInt64S.calls kj78 (fun k_ => some k_ = (.slice Ao119 t278.length co119 : Value).ownBlock) (.slice Ao119 t278.length co119) t278 1 t305 t306 w _ ?side1 ?side2 A106.out).mono ?_); (case side1 => repeat (first | (with_reducible first | exact HB.out | apply below_alloc | apply pw_below_drewN | apply below_drew1 | refine below_set ?_ GE245.out | refine below_set ?_ GE246.out | refine below_set ?_ GE271.out | refine below_set ?_ GE277.out) | exact HB.out)); (case side2 => exact Kd.R_tight rfl HO_11.out); rintro e w120 ⟨rfl, hy0, hb, hkp⟩; refine ⟨_, rfl, ?_⟩; have n0_ := Aside0.mk (Kd.R_mono (ok' := fun k_ => some k_ ≠ (v263 : Value).ownBlock ∧ some k_ ≠ (.slice Ao119 t278.length co119 : Value).ownBlock ∧ some k_ ≠ (v282 : Value).ownBlock) (Kd.R_keptB (HO_6.out) hkp (fun k_ hk_ hs_ => (hk_.2.1) hs_)) (fun k_ hk_ => ⟨hk_.1.1, hk_.1.2.1, hk_.1.2.2⟩)); have n1_ := Aside0.mk (Kd.R_mono (ok' := fun k_ => some k_ ≠ (v260 : Value).ownBlock ∧ some k_ ≠ (.slice Ao119 t278.length co119 : Value).ownBlock ∧ some k_ ≠ (v282 : Value).ownBlock) (Kd.R_keptB (HO_7.out) hkp (fun k_ hk_ hs_ => (hk_.2.1) hs_)) (fun k_ hk_ => ⟨hk_.1.1, hk_.1.2.1, hk_.1.2.2⟩)); have n2_ := Aside0.mk (Kd.R_reok rfl hy0 (fun k_ e_ => HO_11.out.1 k_ e_)); have n3_ := Aside0.mk (Kd.R_mono (ok' := fun k_ => some k_ ≠ (v260 : Value).ownBlock ∧ some k_ ≠ (v263 : Value).ownBlock ∧ some k_ ≠ (.slice Ao119 t278.length co119 : Value).ownBlock) (Kd.R_keptB (HO_12.out) hkp (fun k_ hk_ hs_ => (hk_.2.2) hs_)) (fun k_ hk_ => ⟨hk_.1.1, hk_.1.2.1, hk_.1.2.2⟩)); have n4_ := Aside0.mk (Kd.R_mono (ok' := fun k_ => some k_ ≠ (.slice Ao48 t302.length co48 : Value).ownBlock) (Kd.R_keptB ((Kd.R_apart' HO_272001.out (Kd.R_typed HO_11.out) (by decide))) hkp (fun k_ hk_ hs_ => (hk_.2) hs_)) (fun k_ hk_ => hk_.1.1)); have n5_ := Aside0.mk (Kd.R_mono (ok' := fun k_ => some k_ ≠ (.slice Ao44 t300.length co44 : Value).ownBlock) (Kd.R_keptB ((Kd.R_apart' HO_278001.out (Kd.R_typed HO_11.out) (by decide))) hkp (fun k_ hk_ hs_ => (hk_.2) hs_)) (fun k_ hk_ => hk_.1.1)); have n6_ := Aside0.mk (blk_kept (by (with_reducible repeat (first | refine blk_drewN ?_ _ | refine blk_drew ?_ | refine blk_alloc ?_ _)); exact BK245.out) hkp (fun hs_ => (fun e_ => (Kd.R_ne HO_11.out BK245.out (by decide)) e_) hs_)); have n7_ := Aside0.mk (blk_kept (by (with_reducible repeat (first | refine blk_drewN ?_ _ | refine blk_drew ?_ | refine blk_alloc ?_ _)); exact BK246.out) hkp (fun hs_ => (fun e_ => (Kd.R_ne HO_11.out BK246.out (by decide)) e_) hs_)); have n8_ := Aside0.mk (blk_kept (by (with_reducible repeat (first | refine blk_drewN ?_ _ | refine blk_drew ?_ | refine blk_alloc ?_ _)); exact BK271.out) hkp (fun hs_ => (fun e_ => (Kd.R_ne HO_11.out BK271.out (by decide)) e_) hs_)); have n9_ := Aside0.mk (blk_kept (by (with_reducible repeat (first | refine blk_drewN ?_ _ | refine blk_drew ?_ | refine blk_alloc ?_ _)); exact BK277.out) hkp (fun hs_ => (fun e_ => (Kd.R_ne HO_11.out BK277.out (by decide)) e_) hs_)); have n10_ := Aside0.mk (hb); clear HO_6; clear HO_7; clear HO_11; clear HO_12; clear HO_272001; clear HO_278001; clear BK245; clear BK246; clear BK271; clear BK277; clear HB; have HO_6 := n0_; have HO_7 := n1_; have HO_11 := n2_; have HO_12 := n3_; have HO_272001 := n4_; have HO_278001 := n5_; have BK245 := n6_; have BK246 := n7_; have BK271 := n8_; have BK277 := n9_; have HB := n10_; clear n0_ n1_ n2_ n3_ n4_ n5_ n6_ n7_ n8_ n9_ n10_; (try clear hb); (try clear hkp); (try clear hy0); obtain ⟨Ao121, co121, eo121⟩ := Kd.R_slice HO_12.out; subst eo121) | ((with_reducible refine gate_callee (f := 46) rfl ?_); refine goesL_ (some 105) rfl rfl Try.func46 (by kernel_rfl) rfl #[.slice Ao121 t281.length co121, .int .i64 t305] rfl (by (try simp only [List.map_toArray, List.map_cons, List.map_nil]); first | done | (go_simp; done) | rfl | (simp only [List.length_drop, List.length_take]; rfl)) ?_; (with_reducible refine (laws_markInt64S.calls kj78 (fun k_ => some k_ = (.slice Ao121 t281.length co121 : Value).ownBlock) (.slice Ao121 t281.length co121) t281 t305 t307 t308 w _ ?side1 ?side2 A107.out).mono ?_); (case side1 => repeat (first | (with_reducible first | exact HB.out | apply below_alloc | apply pw_below_drewN | apply below_drew1 | refine below_set ?_ GE245.out | refine below_set ?_ GE246.out | refine below_set ?_ GE271.out | refine below_set ?_ GE277.out) | exact HB.out)); (case side2 => exact Kd.R_tight rfl HO_12.out); rintro e w122 ⟨rfl, hy0, hb, hkp⟩; refine ⟨_, rfl, ?_⟩; have n0_ := Aside0.mk (Kd.R_mono (ok' := fun k_ => some k_ ≠ (v263 : Value).ownBlock ∧ some k_ ≠ (.slice Ao119 t278.length co119 : Value).ownBlock ∧ some k_ ≠ (.slice Ao121 t281.length co121 : Value).ownBlock) (Kd.R_keptB (HO_6.out) hkp (fun k_ hk_ hs_ => (hk_.2.2) hs_)) (fun k_ hk_ => ⟨hk_.1.1, hk_.1.2.1, hk_.1.2.2⟩)); have n1_ := Aside0.mk (Kd.R_mono (ok' := fun k_ => some k_ ≠ (v260 : Value).ownBlock ∧ some k_ ≠ (.slice Ao119 t278.length co119 : Value).ownBlock ∧ some k_ ≠ (.slice Ao121 t281.length co121 : Value).ownBlock) (Kd.R_keptB (HO_7.out) hkp (fun k_ hk_ hs_ => (hk_.2.2) hs_)) (fun k_ hk_ => ⟨hk_.1.1, hk_.1.2.1, hk_.1.2.2⟩)); have n2_ := Aside0.mk (Kd.R_mono (ok' := fun k_ => some k_ ≠ (v260 : Value).ownBlock ∧ some k_ ≠ (v263 : Value).ownBlock ∧ some k_ ≠ (.slice Ao121 t281.length co121 : Value).ownBlock) (Kd.R_keptB (HO_11.out) hkp (fun k_ hk_ hs_ => (hk_.2.2) hs_)) (fun k_ hk_ => ⟨hk_.1.1, hk_.1.2.1, hk_.1.2.2⟩)); have n3_ := Aside0.mk (Kd.R_reok rfl hy0 (fun k_ e_ => HO_12.out.1 k_ e_)); have n4_ := Aside0.mk (Kd.R_mono (ok' := fun k_ => some k_ ≠ (.slice Ao48 t302.length co48 : Value).ownBlock) (Kd.R_keptB ((Kd.R_apart' HO_272001.out (Kd.R_typed HO_12.out) (by decide))) hkp (fun k_ hk_ hs_ => (hk_.2) hs_)) (fun k_ hk_ => hk_.1.1)); have n5_ := Aside0.mk (Kd.R_mono (ok' := fun k_ => some k_ ≠ (.slice Ao44 t300.length co44 : Value).ownBlock) (Kd.R_keptB ((Kd.R_apart' HO_278001.out (Kd.R_typed HO_12.out) (by decide))) hkp (fun k_ hk_ hs_ => (hk_.2) hs_)) (fun k_ hk_ => hk_.1.1)); have n6_ := Aside0.mk (blk_kept (by (with_reducible repeat (first | refine blk_drewN ?_ _ | refine blk_drew ?_ | refine blk_alloc ?_ _)); exact BK245.out) hkp (fun hs_ => (fun e_ => (Kd.R_ne HO_12.out BK245.out (by decide)) e_) hs_)); have n7_ := Aside0.mk (blk_kept (by (with_reducible repeat (first | refine blk_drewN ?_ _ | refine blk_drew ?_ | refine blk_alloc ?_ _)); exact BK246.out) hkp (fun hs_ => (fun e_ => (Kd.R_ne HO_12.out BK246.out (by decide)) e_) hs_)); have n8_ := Aside0.mk (blk_kept (by (with_reducible repeat (first | refine blk_drewN ?_ _ | refine blk_drew ?_ | refine blk_alloc ?_ _)); exact BK271.out) hkp (fun hs_ => (fun e_ => (Kd.R_ne HO_12.out BK271.out (by decide)) e_) hs_)); have n9_ := Aside0.mk (blk_kept (by (with_reducible repeat (first | refine blk_drewN ?_ _ | refine blk_drew ?_ | refine blk_alloc ?_ _)); exact BK277.out) hkp (fun hs_ => (fun e_ => (Kd.R_ne HO_12.out BK277.out (by decide)) e_) hs_)); have n10_ := Aside0.mk (hb); clear HO_6; clear HO_7; clear HO_11; clear HO_12; clear HO_272001; clear HO_278001; clear BK245; clear BK246; clear BK271; clear BK277; clear HB; have HO_6 := n0_; have HO_7 := n1_; have HO_11 := n2_; have HO_12 := n3_; have HO_272001 := n4_; have HO_278001 := n5_; have BK245 := n6_; have BK246 := n7_; have BK271 := n8_; have BK277 := n9_; have HB := n10_; clear n0_ n1_ n2_ n3_ n4_ n5_ n6_ n7_ n8_ n9_ n10_; (try clear hb); (try clear hkp); (try clear hy0)) | ((with_reducible refine gate_callee (f := 47) rfl ?_); refine goesL_ (some 108) rfl rfl Try.func47 (by kernel_rfl) rfl #[.slice Ao119 t306.length co119, .int .i64 1] rfl (by (try simp only [List.map_toArray, List.map_cons, List.map_nil]); first | done | (rw [show t306.length = t278.length from (Kd.R_reads' HO_11.out).1.symm] <;> rfl) | (go_simp; done) | rfl | (simp only [List.length_drop, List.length_take]; rfl)) ?_; (with_reducible refine (laws_heldInt64S.calls kj78 _ _ t306 1 t309 _ ?side1 ?side2 A108.out).mono ?_); (case side1 => repeat (first | exact (Kd.R_reads' HO_11.out).2.2 | (with_reducible refine Kd.C_alloc ?_ _) | (with_reducible refine Kd.C_drewN ?_ _) | (with_reducible refine Kd.C_drew ?_))); (case side2 => rw [show t306.length = t278.length from (Kd.R_reads' HO_11.out).1.symm]; exact (Kd.R_reads' HO_11.out).2.1); rintro e w' ⟨rfl, ⟨nd, rfl⟩⟩; refine ⟨_, rfl, ?_⟩) | ((with_reducible refine gate_callee (f := 47) rfl ?_); refine goesL_ (some 113) rfl rfl Try.func47 (by kernel_rfl) rfl #[.slice Ao121 t308.length co121, .int .i64 t309] rfl (by (try simp only [List.map_toArray, List.map_cons, List.map_nil]); first | done | (rw [show t308.length = t281.length from (Kd.R_reads' HO_12.out).1.symm] <;> rfl) | (go_simp; done) | rfl | (simp only [List.length_drop, List.length_take]; rfl)) ?_; (with_reducible refine (laws_heldInt64S.calls kj78 _ _ t308 t309 t310 _ ?side1 ?side2 A110.out).mono ?_); (case side1 => repeat (first | exact (Kd.R_reads' HO_12.out).2.2 | (with_reducible refine Kd.C_alloc ?_ _) | (with_reducible refine Kd.C_drewN ?_ _) | (with_reducible refine Kd.C_drew ?_))); (case side2 => rw [show t308.length = t281.length from (Kd.R_reads' HO_12.out).1.symm]; exact (Kd.R_reads' HO_12.out).2.1); rintro e w' ⟨rfl, ⟨nd, rfl⟩⟩; refine ⟨_, rfl, ?_⟩))
                        (try (rw [drewN_self w122]; generalize hq_ : World.drewN w122 _ = w122; have n0_ : Aside0 (Kd.R (Kd.int .i64) 2 w122 w.heap.size (fun k_ => some k_ ≠ (.slice Ao121 t281.length co121 : Value).ownBlock ∧ some k_ ≠ (v260 : Value).ownBlock ∧ some k_ ≠ (v263 : Value).ownBlock) (.slice Ao119 t278.length co119) t306) := ⟨by rw [← hq_]; exact (by (with_reducible repeat (first | apply Kd.R_alloc | apply Kd.R_drewN | apply Kd.R_drew)); exact Kd.R_mono HO_11.out (fun _ hk => ⟨hk.2.2, ⟨hk.1, hk.2.1⟩⟩))⟩; have n1_ : Aside0 (Kd.R (Kd.int .i64) 2 w122 w.heap.size (fun k_ => some k_ ≠ (.slice Ao119 t278.length co119 : Value).ownBlock ∧ some k_ ≠ (v260 : Value).ownBlock ∧ some k_ ≠ (v263 : Value).ownBlock) (.slice Ao121 t281.length co121) t308) := ⟨by rw [← hq_]; exact (by (with_reducible repeat (first | apply Kd.R_alloc | apply Kd.R_drewN | apply Kd.R_drew)); exact Kd.R_mono HO_12.out (fun _ hk => ⟨hk.2.2, ⟨hk.1, hk.2.1⟩⟩))⟩; have n2_ : Aside0 (Kd.R k77 77 w122 w.heap.size (fun k_ => some k_ ≠ (.slice Ao48 t302.length co48 : Value).ownBlock) (.slice Ao44 t300.length co44) t300) := ⟨by rw [← hq_]; exact (by (with_reducible repeat (first | apply Kd.R_alloc | apply Kd.R_drewN | apply Kd.R_drew)); exact HO_272001.out)⟩; have n3_ : Aside0 (Kd.R k77 77 w122 w.heap.size (fun k_ => some k_ ≠ (.slice Ao44 t300.length co44 : Value).ownBlock) (.slice Ao48 t302.length co48) t302) := ⟨by rw [← hq_]; exact (by (with_reducible repeat (first | apply Kd.R_alloc | apply Kd.R_drewN | apply Kd.R_drew)); exact HO_278001.out)⟩; have n4_ : Aside0 (Kd.R (Kd.int .i64) 2 w122 w.heap.size (fun k_ => some k_ ≠ (.slice Ao119 t278.length co119 : Value).ownBlock ∧ some k_ ≠ (.slice Ao121 t281.length co121 : Value).ownBlock ∧ some k_ ≠ (v263 : Value).ownBlock) v260 t259) := ⟨by rw [← hq_]; exact (by (with_reducible repeat (first | apply Kd.R_alloc | apply Kd.R_drewN | apply Kd.R_drew)); exact Kd.R_mono HO_6.out (fun _ hk => ⟨hk.2.1, ⟨hk.2.2, hk.1⟩⟩))⟩; have n5_ : Aside0 (Kd.R (Kd.int .i64) 2 w122 w.heap.size (fun k_ => some k_ ≠ (.slice Ao119 t278.length co119 : Value).ownBlock ∧ some k_ ≠ (.slice Ao121 t281.length co121 : Value).ownBlock ∧ some k_ ≠ (v260 : Value).ownBlock) v263 t262) := ⟨by rw [← hq_]; exact (by (with_reducible repeat (first | apply Kd.R_alloc | apply Kd.R_drewN | apply Kd.R_drew)); exact Kd.R_mono HO_7.out (fun _ hk => ⟨hk.2.1, ⟨hk.2.2, hk.1⟩⟩))⟩; have n6_ : Aside0 (w122.heap[gb245]? = some (.cells (⟨(.bool a0_0) :: (.slice A0_1 l0_1.length c0_1) :: Arr.arL .i8 a0_2⟩ : Array Value) 42 (0, 0))) := ⟨by rw [← hq_]; exact (by (with_reducible repeat (first | refine blk_drewN ?_ _ | refine blk_drew ?_ | refine blk_alloc ?_ _)); exact BK245.out)⟩; have n7_ : Aside0 (w122.heap[gb246]? = some (.cells (⟨(.bool a1_0) :: (.slice A1_1 l1_1.length c1_1) :: Arr.arL .i8 a1_2⟩ : Array Value) 42 (0, 0))) := ⟨by rw [← hq_]; exact (by (with_reducible repeat (first | refine blk_drewN ?_ _ | refine blk_drew ?_ | refine blk_alloc ?_ _)); exact BK246.out)⟩; have n8_ : Aside0 (w122.heap[gb271]? = some (.cells (⟨(.bool t266) :: (.slice Ao44 t300.length co44) :: Arr.arL .i8 t270⟩ : Array Value) 47 (0, 0))) := ⟨by rw [← hq_]; exact (by (with_reducible repeat (first | refine blk_drewN ?_ _ | refine blk_drew ?_ | refine blk_alloc ?_ _)); exact BK271.out)⟩; have n9_ : Aside0 (w122.heap[gb277]? = some (.cells (⟨(.bool t272) :: (.slice Ao48 t302.length co48) :: Arr.arL .i8 t276⟩ : Array Value) 47 (0, 0))) := ⟨by rw [← hq_]; exact (by (with_reducible repeat (first | refine blk_drewN ?_ _ | refine blk_drew ?_ | refine blk_alloc ?_ _)); exact BK277.out)⟩; have n10_ : Aside0 (Below w.heap.size w w122) := ⟨by rw [← hq_]; exact (by repeat (first | (with_reducible first | exact HB.out | apply below_alloc | apply pw_below_drewN | apply below_drew1 | refine below_set ?_ GE245.out | refine below_set ?_ GE246.out | refine below_set ?_ GE271.out | refine below_set ?_ GE277.out) | exact HB.out))⟩; clear HO_11 HO_12 HO_272001 HO_278001 HO_6 HO_7 BK245 BK246 BK271 BK277 HB hq_; have HO_11 := n0_; have HO_12 := n1_; have HO_272001 := n2_; have HO_278001 := n3_; have HO_6 := n4_; have HO_7 := n5_; have BK245 := n6_; have BK246 := n7_; have BK271 := n8_; have BK277 := n9_; have HB := n10_; clear n0_ n1_ n2_ n3_ n4_ n5_ n6_ n7_ n8_ n9_ n10_))
                        have n0_ := Aside0.mk (Kd.R_drew HO_6.out)
                        have n1_ := Aside0.mk (Kd.R_drew HO_7.out)
                        have n2_ := Aside0.mk (Kd.R_drew HO_11.out)
                        have n3_ := Aside0.mk (Kd.R_drew HO_12.out)
                        have n4_ := Aside0.mk (Kd.R_drew HO_272001.out)
                        have n5_ := Aside0.mk (Kd.R_drew HO_278001.out)
                        have n6_ := Aside0.mk (blk_drew BK245.out)
                        have n7_ := Aside0.mk (blk_drew BK246.out)
                        have n8_ := Aside0.mk (blk_drew BK271.out)
                        have n9_ := Aside0.mk (blk_drew BK277.out)
                        have n10_ := Aside0.mk (below_drew1 HB.out)
                        clear HO_6
                        clear HO_7
                        clear HO_11
                        clear HO_12
                        clear HO_272001
                        clear HO_278001
                        clear BK245
                        clear BK246
                        clear BK271
                        clear BK277
                        clear HB
                        have HO_6 := n0_
                        have HO_7 := n1_
                        have HO_11 := n2_
                        have HO_12 := n3_
                        have HO_272001 := n4_
                        have HO_278001 := n5_
                        have BK245 := n6_
                        have BK246 := n7_
                        have BK271 := n8_
                        have BK277 := n9_
                        have HB := n10_
                        clear n0_ n1_ n2_ n3_ n4_ n5_ n6_ n7_ n8_ n9_ n10_
                        refine start_ (n := 12) (S := fun w' => w'.heap[gb245]? = some (.cells (⟨(.bool a0_0) :: (.slice A0_1 l0_1.length c0_1) :: Arr.arL .i8 a0_2⟩ : Array Value) 42 (0, 0)) ∧ w'.heap[gb246]? = some (.cells (⟨(.bool a1_0) :: (.slice A1_1 l1_1.length c1_1) :: Arr.arL .i8 a1_2⟩ : Array Value) 42 (0, 0))) (ds := []) #[false, false, false, false, false, false, false, false, false, false, false, false] (by kernel_rfl) rfl rfl ⟨BK245.out, BK246.out⟩ (fun hHeld => ?_); refine with_tabW laws_FnExactMisfitsOf.tab35 laws_FnExactMisfitsOf.bits35 (fun HT_ HW_ => ?_)
                        generalize w122.drew = w123 at HO_6 HO_7 HO_11 HO_12 HO_272001 HO_278001 BK245 BK246 BK271 BK277 HB hHeld ⊢
                        refine take_ (i := 0) (N := some 120) (v := ?_) (a' := ?_) #[true, false, false, false, false, false, false, false, false, false, false, false] rfl rfl (take_ofW HT_.out HW_.out (by kernel_rfl)) (fun _ _ _ h => h) (Or.inl ⟨by rfl, ?_⟩) hHeld ?_ ?_
                        rotate_left
                        · rintro w' ⟨s0, s1⟩
                          refine Arr.exec_load (T := 42) (p := 2) (g := gb245) (off := 0) (t := 42) (l := ((.bool a0_0) :: (.slice A0_1 l0_1.length c0_1) :: Arr.arL .i8 a0_2)) (m := ((.bool a0_0) :: (.slice A0_1 l0_1.length c0_1) :: Arr.arL .i8 a0_2)) (fr := (0, 0)) (n := 18) ?_ ?_ s0 ?_ Try.underlying42 ?_ ?_ ?_
                          · rfl
                          · first | (go_simp; done) | rfl | (go_simp; rfl)
                          · rfl
                          · rfl
                          · kernel_rfl
                          · simp [Arr.arL_length]
                        rotate_left
                        · simp only [Act.put, List.setIfInBounds_toArray, List.set_cons_zero, List.set_cons_succ, i64_w, i32_w]
                          rfl
                        refine take_ (i := 2) (N := some 122) (v := ?_) (a' := ?_) #[true, false, true, false, false, false, false, false, false, false, false, false] rfl rfl (take_ofW HT_.out HW_.out (by kernel_rfl)) (fun _ _ _ h => h) (Or.inl ⟨by rfl, ?_⟩) hHeld ?_ ?_
                        rotate_left
                        · rintro w' ⟨s0, s1⟩
                          refine Arr.exec_load (T := 42) (p := 3) (g := gb246) (off := 0) (t := 42) (l := ((.bool a1_0) :: (.slice A1_1 l1_1.length c1_1) :: Arr.arL .i8 a1_2)) (m := ((.bool a1_0) :: (.slice A1_1 l1_1.length c1_1) :: Arr.arL .i8 a1_2)) (fr := (0, 0)) (n := 18) ?_ ?_ s1 ?_ Try.underlying42 ?_ ?_ ?_
                          · rfl
                          · first | (go_simp; done) | rfl | (go_simp; rfl)
                          · rfl
                          · rfl
                          · kernel_rfl
                          · simp [Arr.arL_length]
                        rotate_left
                        · simp only [Act.put, List.setIfInBounds_toArray, List.set_cons_zero, List.set_cons_succ, i64_w, i32_w]
                          rfl
                        refine one_ (i := 1) (N := some 121) #[true, true, true, false, false, false, false, false, false, false, false, false] rfl rfl (one_of HT_.out (by kernel_rfl)) (by decide) (fun K hK => ?_)
                        refine goes_ Try.func29 (by kernel_rfl) rfl #[.agg (⟨(.bool a0_0) :: (.slice A0_1 l0_1.length c0_1) :: Arr.arL .i8 a0_2⟩ : Array Value)] (by rfl) rfl rfl (by (try simp only [List.map_toArray, List.map_cons, List.map_nil]); first | done | (go_simp; done) | rfl | (simp only [List.length_drop, List.length_take]; rfl)) ?_
                        with_reducible refine (laws_toHalf.calls kj78 a0_0 _ _ l0_1 a0_2 t311 t312 t315 _ ?side1 ?side2 A114.out).mono ?_
                        (case side1 => repeat (first | exact (Kd.C_below HR0_1.out HB.out) | (with_reducible refine Kd.C_alloc ?_ _) | (with_reducible refine Kd.C_drewN ?_ _) | (with_reducible refine Kd.C_drew ?_)))
                        (case side2 => exact HC0_1.out)
                        rintro e w124 ⟨v313, rfl, ho0, hb⟩
                        refine ⟨_, rfl, ?_⟩
                        have n0_ := Aside0.mk (Kd.R_below (by (with_reducible repeat (first | apply Kd.R_alloc | apply Kd.R_drewN | apply Kd.R_drew)); exact HO_6.out) hb)
                        have n1_ := Aside0.mk (Kd.R_below (by (with_reducible repeat (first | apply Kd.R_alloc | apply Kd.R_drewN | apply Kd.R_drew)); exact HO_7.out) hb)
                        have n2_ := Aside0.mk (Kd.R_below (by (with_reducible repeat (first | apply Kd.R_alloc | apply Kd.R_drewN | apply Kd.R_drew)); exact HO_11.out) hb)
                        have n3_ := Aside0.mk (Kd.R_below (by (with_reducible repeat (first | apply Kd.R_alloc | apply Kd.R_drewN | apply Kd.R_drew)); exact HO_12.out) hb)
                        have n4_ := Aside0.mk (Kd.R_elder' (by (with_reducible repeat (first | apply Kd.R_alloc | apply Kd.R_drewN | apply Kd.R_drew)); exact HO_272001.out) (Kd.R_base ho0) hb)
                        have n5_ := Aside0.mk (Kd.R_elder' (by (with_reducible repeat (first | apply Kd.R_alloc | apply Kd.R_drewN | apply Kd.R_drew)); exact HO_278001.out) (Kd.R_base ho0) hb)
                        have n6_ := Aside0.mk (Kd.R_lower (Kd.R_new' (Kd.R_new' ho0 (Kd.R_lt (by (with_reducible repeat (first | apply Kd.R_alloc | apply Kd.R_drewN | apply Kd.R_drew)); exact HO_272001.out))) (Kd.R_lt (by (with_reducible repeat (first | apply Kd.R_alloc | apply Kd.R_drewN | apply Kd.R_drew)); exact HO_278001.out))) (below_size (by repeat (first | (with_reducible first | exact HB.out | apply below_alloc | apply pw_below_drewN | apply below_drew1 | refine below_set ?_ GE245.out | refine below_set ?_ GE246.out | refine below_set ?_ GE271.out | refine below_set ?_ GE277.out) | exact HB.out))))
                        have n7_ := Aside0.mk (blk_below (g := gb245) (o := .cells (⟨(.bool a0_0) :: (.slice A0_1 l0_1.length c0_1) :: Arr.arL .i8 a0_2⟩ : Array Value) 42 (0, 0)) (by (with_reducible repeat (first | refine blk_drewN ?_ _ | refine blk_drew ?_ | refine blk_alloc ?_ _)); exact BK245.out) hb)
                        have n8_ := Aside0.mk (blk_below (g := gb246) (o := .cells (⟨(.bool a1_0) :: (.slice A1_1 l1_1.length c1_1) :: Arr.arL .i8 a1_2⟩ : Array Value) 42 (0, 0)) (by (with_reducible repeat (first | refine blk_drewN ?_ _ | refine blk_drew ?_ | refine blk_alloc ?_ _)); exact BK246.out) hb)
                        have n9_ := Aside0.mk (blk_below (g := gb271) (o := .cells (⟨(.bool t266) :: (.slice Ao44 t300.length co44) :: Arr.arL .i8 t270⟩ : Array Value) 47 (0, 0)) (by (with_reducible repeat (first | refine blk_drewN ?_ _ | refine blk_drew ?_ | refine blk_alloc ?_ _)); exact BK271.out) hb)
                        have n10_ := Aside0.mk (blk_below (g := gb277) (o := .cells (⟨(.bool t272) :: (.slice Ao48 t302.length co48) :: Arr.arL .i8 t276⟩ : Array Value) 47 (0, 0)) (by (with_reducible repeat (first | refine blk_drewN ?_ _ | refine blk_drew ?_ | refine blk_alloc ?_ _)); exact BK277.out) hb)
                        have n11_ := Aside0.mk (below_step (by repeat (first | (with_reducible first | exact HB.out | apply below_alloc | apply pw_below_drewN | apply below_drew1 | refine below_set ?_ GE245.out | refine below_set ?_ GE246.out | refine below_set ?_ GE271.out | refine below_set ?_ GE277.out) | exact HB.out)) hb)
                        clear HO_6
                        clear HO_7
                        clear HO_11
                        clear HO_12
                        clear HO_272001
                        clear HO_278001
                        clear BK245
                        clear BK246
                        clear BK271
                        clear BK277
                        clear HB
                        have HO_6 := n0_
                        have HO_7 := n1_
                        have HO_11 := n2_
                        have HO_12 := n3_
                        have HO_272001 := n4_
                        have HO_278001 := n5_
                        have HO314 := n6_
                        have BK245 := n7_
                        have BK246 := n8_
                        have BK271 := n9_
                        have BK277 := n10_
                        have HB := n11_
                        clear n0_ n1_ n2_ n3_ n4_ n5_ n6_ n7_ n8_ n9_ n10_ n11_
                        (try clear hb)
                        (try clear hb2)
                        (try clear hk)
                        (try clear hi)
                        (try clear ho0)
                        refine hK.out _ _ ⟨BK245.out, BK246.out⟩ (fun hHeld => ?_)
                        clear hK K
                        refine norm_ (a' := ?_) ?_ ?_
                        rotate_left
                        · show Act.put _ (some 121) _ = _
                          simp only [Act.put, List.setIfInBounds_toArray, List.set_cons_zero, List.set_cons_succ, i64_w, i32_w]
                          rfl
                        refine one_ (i := 3) (N := some 123) #[true, true, true, true, false, false, false, false, false, false, false, false] rfl rfl (one_of HT_.out (by kernel_rfl)) (by decide) (fun K hK => ?_)
                        refine goes_ Try.func29 (by kernel_rfl) rfl #[.agg (⟨(.bool a1_0) :: (.slice A1_1 l1_1.length c1_1) :: Arr.arL .i8 a1_2⟩ : Array Value)] (by rfl) rfl rfl (by (try simp only [List.map_toArray, List.map_cons, List.map_nil]); first | done | (go_simp; done) | rfl | (simp only [List.length_drop, List.length_take]; rfl)) ?_
                        with_reducible refine (laws_toHalf.calls kj78 a1_0 _ _ l1_1 a1_2 t316 t317 t320 _ ?side1 ?side2 A116.out).mono ?_
                        (case side1 => repeat (first | exact (Kd.C_below HR1_1.out HB.out) | (with_reducible refine Kd.C_alloc ?_ _) | (with_reducible refine Kd.C_drewN ?_ _) | (with_reducible refine Kd.C_drew ?_)))
                        (case side2 => exact HC1_1.out)
                        rintro e w125 ⟨v318, rfl, ho0, hb⟩
                        refine ⟨_, rfl, ?_⟩
                        have n0_ := Aside0.mk (Kd.R_below (by (with_reducible repeat (first | apply Kd.R_alloc | apply Kd.R_drewN | apply Kd.R_drew)); exact HO_6.out) hb)
                        have n1_ := Aside0.mk (Kd.R_below (by (with_reducible repeat (first | apply Kd.R_alloc | apply Kd.R_drewN | apply Kd.R_drew)); exact HO_7.out) hb)
                        have n2_ := Aside0.mk (Kd.R_below (by (with_reducible repeat (first | apply Kd.R_alloc | apply Kd.R_drewN | apply Kd.R_drew)); exact HO_11.out) hb)
                        have n3_ := Aside0.mk (Kd.R_below (by (with_reducible repeat (first | apply Kd.R_alloc | apply Kd.R_drewN | apply Kd.R_drew)); exact HO_12.out) hb)
                        have n4_ := Aside0.mk (Kd.R_elder' (by (with_reducible repeat (first | apply Kd.R_alloc | apply Kd.R_drewN | apply Kd.R_drew)); exact HO_272001.out) (Kd.R_base ho0) hb)
                        have n5_ := Aside0.mk (Kd.R_elder' (by (with_reducible repeat (first | apply Kd.R_alloc | apply Kd.R_drewN | apply Kd.R_drew)); exact HO_278001.out) (Kd.R_base ho0) hb)
                        have n6_ := Aside0.mk (Kd.R_elder' (by (with_reducible repeat (first | apply Kd.R_alloc | apply Kd.R_drewN | apply Kd.R_drew)); exact HO314.out) (Kd.R_base ho0) hb)
                        have n7_ := Aside0.mk (Kd.R_lower (Kd.R_new' (Kd.R_new' (Kd.R_new' ho0 (Kd.R_lt (by (with_reducible repeat (first | apply Kd.R_alloc | apply Kd.R_drewN | apply Kd.R_drew)); exact HO_272001.out))) (Kd.R_lt (by (with_reducible repeat (first | apply Kd.R_alloc | apply Kd.R_drewN | apply Kd.R_drew)); exact HO_278001.out))) (Kd.R_lt (by (with_reducible repeat (first | apply Kd.R_alloc | apply Kd.R_drewN | apply Kd.R_drew)); exact HO314.out))) (below_size (by repeat (first | (with_reducible first | exact HB.out | apply below_alloc | apply pw_below_drewN | apply below_drew1 | refine below_set ?_ GE245.out | refine below_set ?_ GE246.out | refine below_set ?_ GE271.out | refine below_set ?_ GE277.out) | exact HB.out))))
                        have n8_ := Aside0.mk (blk_below (g := gb245) (o := .cells (⟨(.bool a0_0) :: (.slice A0_1 l0_1.length c0_1) :: Arr.arL .i8 a0_2⟩ : Array Value) 42 (0, 0)) (by (with_reducible repeat (first | refine blk_drewN ?_ _ | refine blk_drew ?_ | refine blk_alloc ?_ _)); exact BK245.out) hb)
                        have n9_ := Aside0.mk (blk_below (g := gb246) (o := .cells (⟨(.bool a1_0) :: (.slice A1_1 l1_1.length c1_1) :: Arr.arL .i8 a1_2⟩ : Array Value) 42 (0, 0)) (by (with_reducible repeat (first | refine blk_drewN ?_ _ | refine blk_drew ?_ | refine blk_alloc ?_ _)); exact BK246.out) hb)
                        have n10_ := Aside0.mk (blk_below (g := gb271) (o := .cells (⟨(.bool t266) :: (.slice Ao44 t300.length co44) :: Arr.arL .i8 t270⟩ : Array Value) 47 (0, 0)) (by (with_reducible repeat (first | refine blk_drewN ?_ _ | refine blk_drew ?_ | refine blk_alloc ?_ _)); exact BK271.out) hb)
                        have n11_ := Aside0.mk (blk_below (g := gb277) (o := .cells (⟨(.bool t272) :: (.slice Ao48 t302.length co48) :: Arr.arL .i8 t276⟩ : Array Value) 47 (0, 0)) (by (with_reducible repeat (first | refine blk_drewN ?_ _ | refine blk_drew ?_ | refine blk_alloc ?_ _)); exact BK277.out) hb)
                        have n12_ := Aside0.mk (below_step (by repeat (first | (with_reducible first | exact HB.out | apply below_alloc | apply pw_below_drewN | apply below_drew1 | refine below_set ?_ GE245.out | refine below_set ?_ GE246.out | refine below_set ?_ GE271.out | refine below_set ?_ GE277.out) | exact HB.out)) hb)
                        clear HO_6
                        clear HO_7
                        clear HO_11
                        clear HO_12
                        clear HO_272001
                        clear HO_278001
                        clear HO314
                        clear BK245
                        clear BK246
                        clear BK271
                        clear BK277
                        clear HB
                        have HO_6 := n0_
                        have HO_7 := n1_
                        have HO_11 := n2_
                        have HO_12 := n3_
                        have HO_272001 := n4_
                        have HO_278001 := n5_
                        have HO314 := n6_
                        have HO319 := n7_
                        have BK245 := n8_
                        have BK246 := n9_
                        have BK271 := n10_
                        have BK277 := n11_
                        have HB := n12_
                        clear n0_ n1_ n2_ n3_ n4_ n5_ n6_ n7_ n8_ n9_ n10_ n11_ n12_
                        (try clear hb)
                        (try clear hb2)
                        (try clear hk)
                        (try clear hi)
                        (try clear ho0)
                        obtain ⟨Ao126, co126, eo126⟩ := Kd.R_slice HO314.out
                        (first | subst eo126 | (injection eo126 with f1_ f2_ f3_; have f4_ := f1_.symm; have f5_ := f3_.symm; clear f1_ f2_ f3_; subst f4_; subst f5_))
                        obtain ⟨Ao127, co127, eo127⟩ := Kd.R_slice HO319.out
                        (first | subst eo127 | (injection eo127 with f1_ f2_ f3_; have f4_ := f1_.symm; have f5_ := f3_.symm; clear f1_ f2_ f3_; subst f4_; subst f5_))
                        refine hK.out _ _ ⟨BK245.out, BK246.out⟩ (fun hHeld => ?_)
                        clear hK K
                        refine norm_ (a' := ?_) ?_ ?_
                        rotate_left
                        · show Act.put _ (some 123) _ = _
                          simp only [Act.put, List.setIfInBounds_toArray, List.set_cons_zero, List.set_cons_succ, i64_w, i32_w]
                          rfl
                        refine one_ (i := 4) (N := some 124) #[true, true, true, true, true, false, false, false, false, false, false, false] rfl rfl (one_of HT_.out (by kernel_rfl)) (by decide) (fun K hK => ?_)
                        refine goes_ Try.func43 (by kernel_rfl) rfl #[.agg (⟨(.bool t311) :: (.slice Ao126 t312.length co126) :: Arr.arL .i8 t315⟩ : Array Value), .agg (⟨(.bool t316) :: (.slice Ao127 t317.length co127) :: Arr.arL .i8 t320⟩ : Array Value)] (by rfl) rfl rfl (by (try simp only [List.map_toArray, List.map_cons, List.map_nil]); first | done | (go_simp; done) | rfl | (simp only [List.length_drop, List.length_take]; rfl)) ?_
                        with_reducible refine (impl_MisfitsOf.calls kj78 t311 _ _ t312 t315 t316 _ _ t317 t320 t321 t324 t327 _ ?side1 ?side2 ?side3 ?side4 A117.out).mono ?_
                        (case side1 => repeat (first | exact (Kd.R_reads' HO314.out).2.2 | (with_reducible refine Kd.C_alloc ?_ _) | (with_reducible refine Kd.C_drewN ?_ _) | (with_reducible refine Kd.C_drew ?_)))
                        (case side2 => exact (Kd.R_reads' HO314.out).2.1)
                        (case side3 => repeat (first | exact (Kd.R_reads' HO319.out).2.2 | (with_reducible refine Kd.C_alloc ?_ _) | (with_reducible refine Kd.C_drewN ?_ _) | (with_reducible refine Kd.C_drew ?_)))
                        (case side4 => exact (Kd.R_reads' HO319.out).2.1)
                        rintro e w128 ⟨v322, v325, rfl, ho0, ho1, hb⟩
                        refine ⟨_, rfl, ?_⟩
                        have n0_ := Aside0.mk (Kd.R_mono (Kd.R_told (Kd.R_told (Kd.R_old (by (with_reducible repeat (first | apply Kd.R_alloc | apply Kd.R_drewN | apply Kd.R_drew)); exact HO_6.out) hb) (Kd.R_base ho0)) (Kd.R_base ho1)) (fun _ h_ => h_.1))
                        have n1_ := Aside0.mk (Kd.R_mono (Kd.R_told (Kd.R_told (Kd.R_old (by (with_reducible repeat (first | apply Kd.R_alloc | apply Kd.R_drewN | apply Kd.R_drew)); exact HO_7.out) hb) (Kd.R_base ho0)) (Kd.R_base ho1)) (fun _ h_ => h_.1))
                        have n2_ := Aside0.mk (Kd.R_mono (Kd.R_told (Kd.R_told (Kd.R_old (by (with_reducible repeat (first | apply Kd.R_alloc | apply Kd.R_drewN | apply Kd.R_drew)); exact HO_11.out) hb) (Kd.R_base ho0)) (Kd.R_base ho1)) (fun _ h_ => h_.1))
                        have n3_ := Aside0.mk (Kd.R_mono (Kd.R_told (Kd.R_told (Kd.R_old (by (with_reducible repeat (first | apply Kd.R_alloc | apply Kd.R_drewN | apply Kd.R_drew)); exact HO_12.out) hb) (Kd.R_base ho0)) (Kd.R_base ho1)) (fun _ h_ => h_.1))
                        have n4_ := Aside0.mk (Kd.R_below (by (with_reducible repeat (first | apply Kd.R_alloc | apply Kd.R_drewN | apply Kd.R_drew)); exact HO_272001.out) hb)
                        have n5_ := Aside0.mk (Kd.R_below (by (with_reducible repeat (first | apply Kd.R_alloc | apply Kd.R_drewN | apply Kd.R_drew)); exact HO_278001.out) hb)
                        have n6_ := Aside0.mk (Kd.R_below (by (with_reducible repeat (first | apply Kd.R_alloc | apply Kd.R_drewN | apply Kd.R_drew)); exact HO314.out) hb)
                        have n7_ := Aside0.mk (Kd.R_below (by (with_reducible repeat (first | apply Kd.R_alloc | apply Kd.R_drewN | apply Kd.R_drew)); exact HO319.out) hb)
                        have n8_ := Aside0.mk (Kd.R_lower (Kd.R_new' (Kd.R_new' (Kd.R_new' (Kd.R_new' ho0 (Kd.R_lt (by (with_reducible repeat (first | apply Kd.R_alloc | apply Kd.R_drewN | apply Kd.R_drew)); exact HO_6.out))) (Kd.R_lt (by (with_reducible repeat (first | apply Kd.R_alloc | apply Kd.R_drewN | apply Kd.R_drew)); exact HO_7.out))) (Kd.R_lt (by (with_reducible repeat (first | apply Kd.R_alloc | apply Kd.R_drewN | apply Kd.R_drew)); exact HO_11.out))) (Kd.R_lt (by (with_reducible repeat (first | apply Kd.R_alloc | apply Kd.R_drewN | apply Kd.R_drew)); exact HO_12.out))) (below_size (by repeat (first | (with_reducible first | exact HB.out | apply below_alloc | apply pw_below_drewN | apply below_drew1 | refine below_set ?_ GE245.out | refine below_set ?_ GE246.out | refine below_set ?_ GE271.out | refine below_set ?_ GE277.out) | exact HB.out))))
                        have n9_ := Aside0.mk (Kd.R_lower (Kd.R_new' (Kd.R_new' (Kd.R_new' (Kd.R_new' ho1 (Kd.R_lt (by (with_reducible repeat (first | apply Kd.R_alloc | apply Kd.R_drewN | apply Kd.R_drew)); exact HO_6.out))) (Kd.R_lt (by (with_reducible repeat (first | apply Kd.R_alloc | apply Kd.R_drewN | apply Kd.R_drew)); exact HO_7.out))) (Kd.R_lt (by (with_reducible repeat (first | apply Kd.R_alloc | apply Kd.R_drewN | apply Kd.R_drew)); exact HO_11.out))) (Kd.R_lt (by (with_reducible repeat (first | apply Kd.R_alloc | apply Kd.R_drewN | apply Kd.R_drew)); exact HO_12.out))) (below_size (by repeat (first | (with_reducible first | exact HB.out | apply below_alloc | apply pw_below_drewN | apply below_drew1 | refine below_set ?_ GE245.out | refine below_set ?_ GE246.out | refine below_set ?_ GE271.out | refine below_set ?_ GE277.out) | exact HB.out))))
                        have n10_ := Aside0.mk (blk_below (g := gb245) (o := .cells (⟨(.bool a0_0) :: (.slice A0_1 l0_1.length c0_1) :: Arr.arL .i8 a0_2⟩ : Array Value) 42 (0, 0)) (by (with_reducible repeat (first | refine blk_drewN ?_ _ | refine blk_drew ?_ | refine blk_alloc ?_ _)); exact BK245.out) hb)
                        have n11_ := Aside0.mk (blk_below (g := gb246) (o := .cells (⟨(.bool a1_0) :: (.slice A1_1 l1_1.length c1_1) :: Arr.arL .i8 a1_2⟩ : Array Value) 42 (0, 0)) (by (with_reducible repeat (first | refine blk_drewN ?_ _ | refine blk_drew ?_ | refine blk_alloc ?_ _)); exact BK246.out) hb)
                        have n12_ := Aside0.mk (blk_below (g := gb271) (o := .cells (⟨(.bool t266) :: (.slice Ao44 t300.length co44) :: Arr.arL .i8 t270⟩ : Array Value) 47 (0, 0)) (by (with_reducible repeat (first | refine blk_drewN ?_ _ | refine blk_drew ?_ | refine blk_alloc ?_ _)); exact BK271.out) hb)
                        have n13_ := Aside0.mk (blk_below (g := gb277) (o := .cells (⟨(.bool t272) :: (.slice Ao48 t302.length co48) :: Arr.arL .i8 t276⟩ : Array Value) 47 (0, 0)) (by (with_reducible repeat (first | refine blk_drewN ?_ _ | refine blk_drew ?_ | refine blk_alloc ?_ _)); exact BK277.out) hb)
                        have n14_ := Aside0.mk (below_step (by repeat (first | (with_reducible first | exact HB.out | apply below_alloc | apply pw_below_drewN | apply below_drew1 | refine below_set ?_ GE245.out | refine below_set ?_ GE246.out | refine below_set ?_ GE271.out | refine below_set ?_ GE277.out) | exact HB.out)) hb)
                        clear HO_6
                        clear HO_7
                        clear HO_11
                        clear HO_12
                        clear HO_272001
                        clear HO_278001
                        clear HO314
                        clear HO319
                        clear BK245
                        clear BK246
                        clear BK271
                        clear BK277
                        clear HB
                        have HO_6 := n0_
                        have HO_7 := n1_
                        have HO_11 := n2_
                        have HO_12 := n3_
                        have HO_272001 := n4_
                        have HO_278001 := n5_
                        have HO314 := n6_
                        have HO319 := n7_
                        have HO323 := n8_
                        have HO326 := n9_
                        have BK245 := n10_
                        have BK246 := n11_
                        have BK271 := n12_
                        have BK277 := n13_
                        have HB := n14_
                        clear n0_ n1_ n2_ n3_ n4_ n5_ n6_ n7_ n8_ n9_ n10_ n11_ n12_ n13_ n14_
                        (try clear hb)
                        (try clear hb2)
                        (try clear hk)
                        (try clear hi)
                        (try clear ho0)
                        (try clear ho1)
                        refine hK.out _ _ ⟨BK245.out, BK246.out⟩ (fun hHeld => ?_)
                        clear hK K
                        refine norm_ (a' := ?_) ?_ ?_
                        rotate_left
                        · show Act.put _ (some 124) _ = _
                          simp only [Act.put, List.setIfInBounds_toArray, List.set_cons_zero, List.set_cons_succ, i64_w, i32_w]
                          rfl
                        refine pure_ (i := 5) (N := some 119) (v := ?_) (a' := ?_) #[true, true, true, true, true, true, false, false, false, false, false, false] rfl rfl (any_of HT_.out (by kernel_rfl)) (fun _ _ _ h => h) (Or.inl ⟨by rfl, ?_⟩) ?_ ?_
                        rotate_left
                        · intro w'
                          go_simp
                          with_reducible rfl
                        rotate_left
                        · simp only [Act.put, List.setIfInBounds_toArray, List.set_cons_zero, List.set_cons_succ, i64_w, i32_w]
                          rfl
                        refine pure_ (i := 6) (N := some 125) (v := ?_) (a' := ?_) #[true, true, true, true, true, true, true, false, false, false, false, false] rfl rfl (any_of HT_.out (by kernel_rfl)) (fun _ _ _ h => h) (Or.inl ⟨by rfl, ?_⟩) ?_ ?_
                        rotate_left
                        · intro w'
                          go_simp
                          with_reducible rfl
                        rotate_left
                        · simp only [Act.put, List.setIfInBounds_toArray, List.set_cons_zero, List.set_cons_succ, i64_w, i32_w]
                          rfl
                        refine pure_ (i := 7) (N := some 126) (v := ?_) (a' := ?_) #[true, true, true, true, true, true, true, true, false, false, false, false] rfl rfl (any_of HT_.out (by kernel_rfl)) (fun _ _ _ h => h) (Or.inl ⟨by rfl, ?_⟩) ?_ ?_
                        rotate_left
                        · intro w'
                          go_simp
                          with_reducible rfl
                        rotate_left
                        · simp only [Act.put, List.setIfInBounds_toArray, List.set_cons_zero, List.set_cons_succ, i64_w, i32_w]
                          rfl
                        refine pure_ (i := 8) (N := some 127) (v := ?_) (a' := ?_) #[true, true, true, true, true, true, true, true, true, false, false, false] rfl rfl (any_of HT_.out (by kernel_rfl)) (fun _ _ _ h => h) (Or.inl ⟨by rfl, ?_⟩) ?_ ?_
                        rotate_left
                        · intro w'
                          go_simp
                          with_reducible rfl
                        rotate_left
                        · simp only [Act.put, List.setIfInBounds_toArray, List.set_cons_zero, List.set_cons_succ, i64_w, i32_w]
                          rfl
                        refine pure_ (i := 9) (N := some 17) (v := ?_) (a' := ?_) #[true, true, true, true, true, true, true, true, true, true, false, false] rfl rfl (any_of HT_.out (by kernel_rfl)) (fun _ _ _ h => h) (Or.inl ⟨by rfl, ?_⟩) ?_ ?_
                        rotate_left
                        · intro w'
                          go_simp
                          with_reducible rfl
                        rotate_left
                        · simp only [Act.put, List.setIfInBounds_toArray, List.set_cons_zero, List.set_cons_succ, i64_w, i32_w]
                          rfl
                        refine pure_ (i := 10) (N := some 18) (v := ?_) (a' := ?_) #[true, true, true, true, true, true, true, true, true, true, true, false] rfl rfl (any_of HT_.out (by kernel_rfl)) (fun _ _ _ h => h) (Or.inl ⟨by rfl, ?_⟩) ?_ ?_
                        rotate_left
                        · intro w'
                          go_simp
                          with_reducible rfl
                        rotate_left
                        · simp only [Act.put, List.setIfInBounds_toArray, List.set_cons_zero, List.set_cons_succ, i64_w, i32_w]
                          rfl
                        refine pure_ (i := 11) (N := some 19) (v := ?_) (a' := ?_) #[true, true, true, true, true, true, true, true, true, true, true, true] rfl rfl (any_of HT_.out (by kernel_rfl)) (fun _ _ _ h => h) (Or.inl ⟨by rfl, ?_⟩) ?_ ?_
                        rotate_left
                        · intro w'
                          go_simp
                          with_reducible rfl
                        rotate_left
                        · simp only [Act.put, List.setIfInBounds_toArray, List.set_cons_zero, List.set_cons_succ, i64_w, i32_w]
                          rfl
                        refine done_ (done_of HT_.out (by kernel_rfl)) ?_
                        go_upto_region 36 with (fail)
                        go_cut [142] (fun v142 wc => ∃ (kq : Nat) (x142_117 : Bool), v142 = .bool x142_117 ∧ Aside0 (laws_FnExactMisfitsOf.j2 kq t306 t308 t307 x142_117 = some r) ∧ Aside0 (kq ≤ kj78) ∧ Aside0 (Kd.R (Kd.int .i64) 2 wc w.heap.size (fun k_ => some k_ ≠ ((.slice Ao121 t281.length co121) : Value).ownBlock) (.slice Ao119 t278.length co119) t306) ∧ Aside0 (Kd.R (Kd.int .i64) 2 wc w.heap.size (fun k_ => some k_ ≠ ((.slice Ao119 t278.length co119) : Value).ownBlock) (.slice Ao121 t281.length co121) t308) ∧ Aside0 (Kd.R k77 77 wc w.heap.size (fun k_ => some k_ ≠ ((.slice Ao48 t302.length co48) : Value).ownBlock) (.slice Ao44 t300.length co44) t300) ∧ Aside0 (Kd.R k77 77 wc w.heap.size (fun k_ => some k_ ≠ ((.slice Ao44 t300.length co44) : Value).ownBlock) (.slice Ao48 t302.length co48) t302) ∧ Aside0 (wc.heap[gb245]? = some (.cells (⟨(.bool a0_0) :: ((.slice A0_1 l0_1.length c0_1)) :: Arr.arL .i8 a0_2⟩ : Array Value) 42 (0, 0))) ∧ Aside0 (wc.heap[gb246]? = some (.cells (⟨(.bool a1_0) :: ((.slice A1_1 l1_1.length c1_1)) :: Arr.arL .i8 a1_2⟩ : Array Value) 42 (0, 0))) ∧ Aside0 (wc.heap[gb271]? = some (.cells (⟨(.bool t266) :: ((.slice Ao44 t300.length co44)) :: Arr.arL .i8 t270⟩ : Array Value) 47 (0, 0))) ∧ Aside0 (wc.heap[gb277]? = some (.cells (⟨(.bool t272) :: ((.slice Ao48 t302.length co48)) :: Arr.arL .i8 t276⟩ : Array Value) 47 (0, 0))) ∧ Aside0 (Below w.heap.size w wc))
                        case first =>
                          have H := HC118.out
                          clear HC118
                          replace H := Option.bind_eq_some_iff.mp H
                          obtain ⟨t328, A1290, H⟩ := H
                          replace H : (if t328 = true then ((laws_eqInt64S.f kj78 t324 t262).bind fun t329 => (if t329 = true then (laws_FnExactMisfitsOf.j2 kj78 t306 t308 t307 (t327 != t265)) else (laws_FnExactMisfitsOf.j2 kj78 t306 t308 t307 true))) else (laws_FnExactMisfitsOf.j2 kj78 t306 t308 t307 true)) = some r := H
                          have A129 := Aside0.mk A1290
                          clear A1290
                          by_cases c130 : t328 = true
                          · subst c130
                            have H1 : ((laws_eqInt64S.f kj78 t324 t262).bind fun t329 => (if t329 = true then (laws_FnExactMisfitsOf.j2 kj78 t306 t308 t307 (t327 != t265)) else (laws_FnExactMisfitsOf.j2 kj78 t306 t308 t307 true))) = some r := by rw [if_pos rfl] at H; exact H
                            clear H
                            have H := H1
                            clear H1
                            replace H := Option.bind_eq_some_iff.mp H
                            obtain ⟨t329, A1310, H⟩ := H
                            replace H : (if t329 = true then (laws_FnExactMisfitsOf.j2 kj78 t306 t308 t307 (t327 != t265)) else (laws_FnExactMisfitsOf.j2 kj78 t306 t308 t307 true)) = some r := H
                            have A131 := Aside0.mk A1310
                            clear A1310
                            by_cases c132 : t329 = true
                            · subst c132
                              have H1 : (laws_FnExactMisfitsOf.j2 kj78 t306 t308 t307 (t327 != t265)) = some r := by rw [if_pos rfl] at H; exact H
                              clear H
                              have H := H1
                              clear H1
                              have H' := Aside0.mk H
                              clear H
                              obtain ⟨Ao133, co133, eo133⟩ := Kd.R_slice HO323.out
                              subst eo133
                              obtain ⟨Ao134, co134, eo134⟩ := Kd.R_slice HO_6.out
                              subst eo134
                              go_wp2_with (first | ((with_reducible refine gate_callee (f := 44) rfl ?_); refine goesL_ (some 130) rfl rfl Try.func44 (by kernel_rfl) rfl #[.slice Ao133 t321.length co133, .slice Ao134 t259.length co134] rfl (by (try simp only [List.map_toArray, List.map_cons, List.map_nil]); first | done | (go_simp; done) | rfl | (simp only [List.length_drop, List.length_take]; rfl)) ?_; (with_reducible refine (laws_eqInt64S.calls kj78 _ _ t321 _ _ t259 true _ ?side1 ?side2 ?side3 ?side4 A129.out).mono ?_); (case side1 => repeat (first | exact (Kd.R_reads' HO323.out).2.2 | (with_reducible refine Kd.C_alloc ?_ _) | (with_reducible refine Kd.C_drewN ?_ _) | (with_reducible refine Kd.C_drew ?_))); (case side2 => exact (Kd.R_reads' HO323.out).2.1); (case side3 => repeat (first | exact (Kd.R_reads' HO_6.out).2.2 | (with_reducible refine Kd.C_alloc ?_ _) | (with_reducible refine Kd.C_drewN ?_ _) | (with_reducible refine Kd.C_drew ?_))); (case side4 => exact (Kd.R_reads' HO_6.out).2.1); rintro e w' ⟨rfl, ⟨nd, rfl⟩⟩; refine ⟨_, rfl, ?_⟩; obtain ⟨Ao135, co135, eo135⟩ := Kd.R_slice HO326.out; subst eo135; obtain ⟨Ao136, co136, eo136⟩ := Kd.R_slice HO_7.out; subst eo136) | (go_at_call 44; (with_reducible refine (laws_eqInt64S.calls kj78 _ _ t324 _ _ t262 true _ ?side1 ?side2 ?side3 ?side4 A131.out).mono ?_); (case side1 => repeat (first | exact (Kd.R_reads' HO326.out).2.2 | (with_reducible refine Kd.C_alloc ?_ _) | (with_reducible refine Kd.C_drewN ?_ _) | (with_reducible refine Kd.C_drew ?_))); (case side2 => exact (Kd.R_reads' HO326.out).2.1); (case side3 => repeat (first | exact (Kd.R_reads' HO_7.out).2.2 | (with_reducible refine Kd.C_alloc ?_ _) | (with_reducible refine Kd.C_drewN ?_ _) | (with_reducible refine Kd.C_drew ?_))); (case side4 => exact (Kd.R_reads' HO_7.out).2.1); rintro e w' ⟨rfl, ⟨nd, rfl⟩⟩))
                              go_meet
                              case rel => exact ⟨_, ((t327 != t265)), (by first | rfl | (simp; done) | (simp [*]; done)), H', ⟨by have := HJ29.out; have := HJ78.out; first | omega | exact Nat.le_refl _⟩, ⟨by (try simp only [hl272001_78]); (try simp only [hl278001_78]); (with_reducible repeat (first | apply Kd.R_alloc | apply Kd.R_drewN | apply Kd.R_drew)); exact Kd.R_mono HO_11.out (fun _ hk => by first | exact hk.1.1.2.2 | simp only [hk, ne_eq, not_false_eq_true])⟩, ⟨by (try simp only [hl272001_78]); (try simp only [hl278001_78]); (with_reducible repeat (first | apply Kd.R_alloc | apply Kd.R_drewN | apply Kd.R_drew)); exact Kd.R_mono HO_12.out (fun _ hk => by first | exact hk.1.1.2.2 | simp only [hk, ne_eq, not_false_eq_true])⟩, ⟨by (try simp only [hl272001_78]); (try simp only [hl278001_78]); (with_reducible repeat (first | apply Kd.R_alloc | apply Kd.R_drewN | apply Kd.R_drew)); exact Kd.R_mono HO_272001.out (fun _ hk => hk.1.1)⟩, ⟨by (try simp only [hl272001_78]); (try simp only [hl278001_78]); (with_reducible repeat (first | apply Kd.R_alloc | apply Kd.R_drewN | apply Kd.R_drew)); exact Kd.R_mono HO_278001.out (fun _ hk => hk.1.1)⟩, ⟨by (try simp only [hl272001_78]); (try simp only [hl278001_78]); (with_reducible repeat (first | refine blk_drewN ?_ _ | refine blk_drew ?_ | refine blk_alloc ?_ _)); exact BK245.out⟩, ⟨by (try simp only [hl272001_78]); (try simp only [hl278001_78]); (with_reducible repeat (first | refine blk_drewN ?_ _ | refine blk_drew ?_ | refine blk_alloc ?_ _)); exact BK246.out⟩, ⟨by (try simp only [hl272001_78]); (try simp only [hl278001_78]); (with_reducible repeat (first | refine blk_drewN ?_ _ | refine blk_drew ?_ | refine blk_alloc ?_ _)); exact BK271.out⟩, ⟨by (try simp only [hl272001_78]); (try simp only [hl278001_78]); (with_reducible repeat (first | refine blk_drewN ?_ _ | refine blk_drew ?_ | refine blk_alloc ?_ _)); exact BK277.out⟩, ⟨by repeat (first | (with_reducible first | exact HB.out | apply below_alloc | apply pw_below_drewN | apply below_drew1 | refine below_set ?_ GE245.out | refine below_set ?_ GE246.out | refine below_set ?_ GE271.out | refine below_set ?_ GE277.out) | exact HB.out)⟩⟩
                            · replace c132 := Bool.eq_false_iff.mpr c132
                              subst c132
                              have H1 : (laws_FnExactMisfitsOf.j2 kj78 t306 t308 t307 true) = some r := by rw [if_neg (show ¬ (false = true) by decide)] at H; exact H
                              clear H
                              have H := H1
                              clear H1
                              have H' := Aside0.mk H
                              clear H
                              obtain ⟨Ao137, co137, eo137⟩ := Kd.R_slice HO323.out
                              subst eo137
                              obtain ⟨Ao138, co138, eo138⟩ := Kd.R_slice HO_6.out
                              subst eo138
                              go_wp2_with (first | ((with_reducible refine gate_callee (f := 44) rfl ?_); refine goesL_ (some 130) rfl rfl Try.func44 (by kernel_rfl) rfl #[.slice Ao137 t321.length co137, .slice Ao138 t259.length co138] rfl (by (try simp only [List.map_toArray, List.map_cons, List.map_nil]); first | done | (go_simp; done) | rfl | (simp only [List.length_drop, List.length_take]; rfl)) ?_; (with_reducible refine (laws_eqInt64S.calls kj78 _ _ t321 _ _ t259 true _ ?side1 ?side2 ?side3 ?side4 A129.out).mono ?_); (case side1 => repeat (first | exact (Kd.R_reads' HO323.out).2.2 | (with_reducible refine Kd.C_alloc ?_ _) | (with_reducible refine Kd.C_drewN ?_ _) | (with_reducible refine Kd.C_drew ?_))); (case side2 => exact (Kd.R_reads' HO323.out).2.1); (case side3 => repeat (first | exact (Kd.R_reads' HO_6.out).2.2 | (with_reducible refine Kd.C_alloc ?_ _) | (with_reducible refine Kd.C_drewN ?_ _) | (with_reducible refine Kd.C_drew ?_))); (case side4 => exact (Kd.R_reads' HO_6.out).2.1); rintro e w' ⟨rfl, ⟨nd, rfl⟩⟩; refine ⟨_, rfl, ?_⟩; obtain ⟨Ao139, co139, eo139⟩ := Kd.R_slice HO326.out; subst eo139; obtain ⟨Ao140, co140, eo140⟩ := Kd.R_slice HO_7.out; subst eo140) | (go_at_call 44; (with_reducible refine (laws_eqInt64S.calls kj78 _ _ t324 _ _ t262 false _ ?side1 ?side2 ?side3 ?side4 A131.out).mono ?_); (case side1 => repeat (first | exact (Kd.R_reads' HO326.out).2.2 | (with_reducible refine Kd.C_alloc ?_ _) | (with_reducible refine Kd.C_drewN ?_ _) | (with_reducible refine Kd.C_drew ?_))); (case side2 => exact (Kd.R_reads' HO326.out).2.1); (case side3 => repeat (first | exact (Kd.R_reads' HO_7.out).2.2 | (with_reducible refine Kd.C_alloc ?_ _) | (with_reducible refine Kd.C_drewN ?_ _) | (with_reducible refine Kd.C_drew ?_))); (case side4 => exact (Kd.R_reads' HO_7.out).2.1); rintro e w' ⟨rfl, ⟨nd, rfl⟩⟩))
                              go_meet
                              case rel => exact ⟨_, (true), (by first | rfl | (simp; done) | (simp [*]; done)), H', ⟨by have := HJ29.out; have := HJ78.out; first | omega | exact Nat.le_refl _⟩, ⟨by (try simp only [hl272001_78]); (try simp only [hl278001_78]); (with_reducible repeat (first | apply Kd.R_alloc | apply Kd.R_drewN | apply Kd.R_drew)); exact Kd.R_mono HO_11.out (fun _ hk => by first | exact hk.1.1.2.2 | simp only [hk, ne_eq, not_false_eq_true])⟩, ⟨by (try simp only [hl272001_78]); (try simp only [hl278001_78]); (with_reducible repeat (first | apply Kd.R_alloc | apply Kd.R_drewN | apply Kd.R_drew)); exact Kd.R_mono HO_12.out (fun _ hk => by first | exact hk.1.1.2.2 | simp only [hk, ne_eq, not_false_eq_true])⟩, ⟨by (try simp only [hl272001_78]); (try simp only [hl278001_78]); (with_reducible repeat (first | apply Kd.R_alloc | apply Kd.R_drewN | apply Kd.R_drew)); exact Kd.R_mono HO_272001.out (fun _ hk => hk.1.1)⟩, ⟨by (try simp only [hl272001_78]); (try simp only [hl278001_78]); (with_reducible repeat (first | apply Kd.R_alloc | apply Kd.R_drewN | apply Kd.R_drew)); exact Kd.R_mono HO_278001.out (fun _ hk => hk.1.1)⟩, ⟨by (try simp only [hl272001_78]); (try simp only [hl278001_78]); (with_reducible repeat (first | refine blk_drewN ?_ _ | refine blk_drew ?_ | refine blk_alloc ?_ _)); exact BK245.out⟩, ⟨by (try simp only [hl272001_78]); (try simp only [hl278001_78]); (with_reducible repeat (first | refine blk_drewN ?_ _ | refine blk_drew ?_ | refine blk_alloc ?_ _)); exact BK246.out⟩, ⟨by (try simp only [hl272001_78]); (try simp only [hl278001_78]); (with_reducible repeat (first | refine blk_drewN ?_ _ | refine blk_drew ?_ | refine blk_alloc ?_ _)); exact BK271.out⟩, ⟨by (try simp only [hl272001_78]); (try simp only [hl278001_78]); (with_reducible repeat (first | refine blk_drewN ?_ _ | refine blk_drew ?_ | refine blk_alloc ?_ _)); exact BK277.out⟩, ⟨by repeat (first | (with_reducible first | exact HB.out | apply below_alloc | apply pw_below_drewN | apply below_drew1 | refine below_set ?_ GE245.out | refine below_set ?_ GE246.out | refine below_set ?_ GE271.out | refine below_set ?_ GE277.out) | exact HB.out)⟩⟩
                          · replace c130 := Bool.eq_false_iff.mpr c130
                            subst c130
                            have H1 : (laws_FnExactMisfitsOf.j2 kj78 t306 t308 t307 true) = some r := by rw [if_neg (show ¬ (false = true) by decide)] at H; exact H
                            clear H
                            have H := H1
                            clear H1
                            have H' := Aside0.mk H
                            clear H
                            obtain ⟨Ao141, co141, eo141⟩ := Kd.R_slice HO323.out
                            subst eo141
                            obtain ⟨Ao142, co142, eo142⟩ := Kd.R_slice HO_6.out
                            subst eo142
                            go_wp2_with (first | ((with_reducible refine gate_callee (f := 44) rfl ?_); refine goesL_ (some 130) rfl rfl Try.func44 (by kernel_rfl) rfl #[.slice Ao141 t321.length co141, .slice Ao142 t259.length co142] rfl (by (try simp only [List.map_toArray, List.map_cons, List.map_nil]); first | done | (go_simp; done) | rfl | (simp only [List.length_drop, List.length_take]; rfl)) ?_; (with_reducible refine (laws_eqInt64S.calls kj78 _ _ t321 _ _ t259 false _ ?side1 ?side2 ?side3 ?side4 A129.out).mono ?_); (case side1 => repeat (first | exact (Kd.R_reads' HO323.out).2.2 | (with_reducible refine Kd.C_alloc ?_ _) | (with_reducible refine Kd.C_drewN ?_ _) | (with_reducible refine Kd.C_drew ?_))); (case side2 => exact (Kd.R_reads' HO323.out).2.1); (case side3 => repeat (first | exact (Kd.R_reads' HO_6.out).2.2 | (with_reducible refine Kd.C_alloc ?_ _) | (with_reducible refine Kd.C_drewN ?_ _) | (with_reducible refine Kd.C_drew ?_))); (case side4 => exact (Kd.R_reads' HO_6.out).2.1); rintro e w' ⟨rfl, ⟨nd, rfl⟩⟩; refine ⟨_, rfl, ?_⟩))
                            go_meet
                            case rel => exact ⟨_, (true), (by first | rfl | (simp; done) | (simp [*]; done)), H', ⟨by have := HJ29.out; have := HJ78.out; first | omega | exact Nat.le_refl _⟩, ⟨by (try simp only [hl272001_78]); (try simp only [hl278001_78]); (with_reducible repeat (first | apply Kd.R_alloc | apply Kd.R_drewN | apply Kd.R_drew)); exact Kd.R_mono HO_11.out (fun _ hk => by first | exact hk.1.1.2.2 | simp only [hk, ne_eq, not_false_eq_true])⟩, ⟨by (try simp only [hl272001_78]); (try simp only [hl278001_78]); (with_reducible repeat (first | apply Kd.R_alloc | apply Kd.R_drewN | apply Kd.R_drew)); exact Kd.R_mono HO_12.out (fun _ hk => by first | exact hk.1.1.2.2 | simp only [hk, ne_eq, not_false_eq_true])⟩, ⟨by (try simp only [hl272001_78]); (try simp only [hl278001_78]); (with_reducible repeat (first | apply Kd.R_alloc | apply Kd.R_drewN | apply Kd.R_drew)); exact Kd.R_mono HO_272001.out (fun _ hk => hk.1.1)⟩, ⟨by (try simp only [hl272001_78]); (try simp only [hl278001_78]); (with_reducible repeat (first | apply Kd.R_alloc | apply Kd.R_drewN | apply Kd.R_drew)); exact Kd.R_mono HO_278001.out (fun _ hk => hk.1.1)⟩, ⟨by (try simp only [hl272001_78]); (try simp only [hl278001_78]); (with_reducible repeat (first | refine blk_drewN ?_ _ | refine blk_drew ?_ | refine blk_alloc ?_ _)); exact BK245.out⟩, ⟨by (try simp only [hl272001_78]); (try simp only [hl278001_78]); (with_reducible repeat (first | refine blk_drewN ?_ _ | refine blk_drew ?_ | refine blk_alloc ?_ _)); exact BK246.out⟩, ⟨by (try simp only [hl272001_78]); (try simp only [hl278001_78]); (with_reducible repeat (first | refine blk_drewN ?_ _ | refine blk_drew ?_ | refine blk_alloc ?_ _)); exact BK271.out⟩, ⟨by (try simp only [hl272001_78]); (try simp only [hl278001_78]); (with_reducible repeat (first | refine blk_drewN ?_ _ | refine blk_drew ?_ | refine blk_alloc ?_ _)); exact BK277.out⟩, ⟨by repeat (first | (with_reducible first | exact HB.out | apply below_alloc | apply pw_below_drewN | apply below_drew1 | refine below_set ?_ GE245.out | refine below_set ?_ GE246.out | refine below_set ?_ GE271.out | refine below_set ?_ GE277.out) | exact HB.out)⟩⟩
                        case rest =>
                          clear HC118
                          try clear c1
                          try clear c2
                          try clear p2
                          try clear c3
                          try clear c4
                          try clear c5
                          try clear c5b0
                          try clear c6
                          try clear c7
                          try clear c9
                          try clear c10
                          try clear c11
                          try clear c11b0
                          try clear c13
                          try clear c14
                          try clear c27
                          try clear c29
                          try clear c31
                          try clear c42
                          try clear c43
                          try clear c44
                          try clear c45
                          try clear c46
                          try clear c47
                          try clear c51
                          try clear c53
                          try clear c64
                          try clear c69
                          try clear c74
                          try clear c90
                          try clear c90b0
                          try clear c92
                          try clear c94
                          try clear c105
                          try clear c109
                          try clear c109b0
                          try clear c111
                          try clear c111b0
                          try clear c112
                          try clear c112b0
                          try clear c112b1
                          try clear c130
                          try clear c132
                          try clear p2
                          obtain ⟨kq, x142_117, rfl, HA, HJ117, HO_11, HO_12, HO_272001, HO_278001, BK245, BK246, BK271, BK277, HB⟩ := hcut
                          have hl11_117 := (Kd.R_reads' HO_11.out).1
                          rw [hl11_117] at HO_11
                          (try simp only [hl11_117])
                          (try simp only [hl11_117] at BK245)
                          (try simp only [hl11_117] at BK246)
                          (try simp only [hl11_117] at BK271)
                          (try simp only [hl11_117] at BK277)
                          (try simp only [hl11_117] at HO_12)
                          (try simp only [hl11_117] at HO_272001)
                          (try simp only [hl11_117] at HO_278001)
                          have hl12_117 := (Kd.R_reads' HO_12.out).1
                          rw [hl12_117] at HO_12
                          (try simp only [hl12_117])
                          (try simp only [hl12_117] at BK245)
                          (try simp only [hl12_117] at BK246)
                          (try simp only [hl12_117] at BK271)
                          (try simp only [hl12_117] at BK277)
                          (try simp only [hl12_117] at HO_11)
                          (try simp only [hl12_117] at HO_272001)
                          (try simp only [hl12_117] at HO_278001)
                          cases kq with
                          | zero => exact absurd HA.out (by simp [laws_FnExactMisfitsOf.j2])
                          | succ kj117 =>
                            have H := HA.out
                            clear HA
                            simp only [laws_FnExactMisfitsOf.j2] at H
                            by_cases c143 : x142_117 = true
                            · subst c143
                              have H1 : (some false) = some r := by rw [if_pos rfl] at H; exact H
                              clear H
                              have H := H1
                              clear H1
                              obtain rfl := Option.some.inj H
                              cases ht
                            · replace c143 := Bool.eq_false_iff.mpr c143
                              subst c143
                              have H1 : ((laws_heldInt64S.f kj117 t306 1).bind fun t330 => (if t330 < 0 then (some false) else ((laws_heldInt64S.f kj117 t308 t330).bind fun t331 => (if t331 < 0 then (some false) else (if t331 = t307 then (some true) else (some false)))))) = some r := by rw [if_neg (show ¬ (false = true) by decide)] at H; exact H
                              clear H
                              have H := H1
                              clear H1
                              replace H := Option.bind_eq_some_iff.mp H
                              obtain ⟨t330, A1440, H⟩ := H
                              replace H : (if t330 < 0 then (some false) else ((laws_heldInt64S.f kj117 t308 t330).bind fun t331 => (if t331 < 0 then (some false) else (if t331 = t307 then (some true) else (some false))))) = some r := H
                              have A144 := Aside0.mk A1440
                              clear A1440
                              by_cases c145 : t330 < 0
                              · rw [if_pos c145] at H
                                have c145b0 : decide (t330 < 0) = true := decide_eq_true c145
                                clear c145
                                obtain rfl := Option.some.inj H
                                cases ht
                              · rw [if_neg c145] at H
                                have c145b0 : decide (t330 < 0) = false := decide_eq_false c145
                                clear c145
                                replace H := Option.bind_eq_some_iff.mp H
                                obtain ⟨t331, A1460, H⟩ := H
                                replace H : (if t331 < 0 then (some false) else (if t331 = t307 then (some true) else (some false))) = some r := H
                                have A146 := Aside0.mk A1460
                                clear A1460
                                by_cases c147 : t331 < 0
                                · rw [if_pos c147] at H
                                  have c147b0 : decide (t331 < 0) = true := decide_eq_true c147
                                  clear c147
                                  obtain rfl := Option.some.inj H
                                  cases ht
                                · rw [if_neg c147] at H
                                  have c147b0 : decide (t331 < 0) = false := decide_eq_false c147
                                  clear c147
                                  by_cases c148 : t331 = t307
                                  · rw [if_pos c148] at H
                                    have c148b0 : (t331 == t307) = true := beq_iff_eq.mpr c148
                                    have c148b1 : (t331 != t307) = false := bne_eq_false_iff_eq.mpr c148
                                    clear c148
                                    obtain rfl := Option.some.inj H
                                    go_wp2_with (first | ((with_reducible refine gate_callee (f := 47) rfl ?_); refine goesL_ (some 145) rfl rfl Try.func47 (by kernel_rfl) rfl #[.slice Ao119 t306.length co119, .int .i64 1] rfl (by (try simp only [List.map_toArray, List.map_cons, List.map_nil]); first | done | (go_simp; done) | rfl | (simp only [List.length_drop, List.length_take]; rfl)) ?_; (with_reducible refine (laws_heldInt64S.calls kj117 _ _ t306 1 t330 _ ?side1 ?side2 A144.out).mono ?_); (case side1 => repeat (first | exact (Kd.R_reads' HO_11.out).2.2 | (with_reducible refine Kd.C_alloc ?_ _) | (with_reducible refine Kd.C_drewN ?_ _) | (with_reducible refine Kd.C_drew ?_))); (case side2 => exact (Kd.R_reads' HO_11.out).2.1); rintro e w' ⟨rfl, ⟨nd, rfl⟩⟩; refine ⟨_, rfl, ?_⟩) | ((with_reducible refine gate_callee (f := 47) rfl ?_); refine goesL_ (some 150) rfl rfl Try.func47 (by kernel_rfl) rfl #[.slice Ao121 t308.length co121, .int .i64 t330] rfl (by (try simp only [List.map_toArray, List.map_cons, List.map_nil]); first | done | (go_simp; done) | rfl | (simp only [List.length_drop, List.length_take]; rfl)) ?_; (with_reducible refine (laws_heldInt64S.calls kj117 _ _ t308 t330 t331 _ ?side1 ?side2 A146.out).mono ?_); (case side1 => repeat (first | exact (Kd.R_reads' HO_12.out).2.2 | (with_reducible refine Kd.C_alloc ?_ _) | (with_reducible refine Kd.C_drewN ?_ _) | (with_reducible refine Kd.C_drew ?_))); (case side2 => exact (Kd.R_reads' HO_12.out).2.1); rintro e w' ⟨rfl, ⟨nd, rfl⟩⟩; refine ⟨_, rfl, ?_⟩))
                                    go_ret
                                    exact ⟨by first | rfl | (simp [errW_none, errW_some] <;> rfl) | (simp [*, errW_none, errW_some] <;> rfl), by repeat (first | (with_reducible first | exact HB.out | apply below_alloc | apply pw_below_drewN | apply below_drew1 | refine below_set ?_ GE245.out | refine below_set ?_ GE246.out | refine below_set ?_ GE271.out | refine below_set ?_ GE277.out) | exact HB.out)⟩
                                  · rw [if_neg c148] at H
                                    have c148b0 : (t331 == t307) = false := beq_eq_false_iff_ne.mpr c148
                                    have c148b1 : (t331 != t307) = true := bne_iff_ne.mpr c148
                                    obtain rfl := Option.some.inj H
                                    cases ht
                      · rw [if_neg c112] at H
                        have c112b0 : (t310 == t307) = false := beq_eq_false_iff_ne.mpr c112
                        have c112b1 : (t310 != t307) = true := bne_iff_ne.mpr c112
                        obtain rfl := Option.some.inj H
                        cases ht
          · replace c74 := Bool.eq_false_iff.mpr c74
            subst c74
            have H1 : (some false) = some r := by rw [if_neg (show ¬ (false = true) by decide)] at H; exact H
            clear H
            have H := H1
            clear H1
            obtain rfl := Option.some.inj H
            cases ht
        · replace c69 := Bool.eq_false_iff.mpr c69
          subst c69
          have H1 : (some false) = some r := by rw [if_neg (show ¬ (false = true) by decide)] at H; exact H
          clear H
          have H := H1
          clear H1
          obtain rfl := Option.some.inj H
          cases ht

end Go.Proofs.Ytgkohbjphajgoaa.MMisfitsOf
