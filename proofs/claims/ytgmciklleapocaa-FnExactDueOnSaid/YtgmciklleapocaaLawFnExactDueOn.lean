import Derived.Test.YtgmciklleapocaaRows
import Derived.Test.YtgmciklleapocaaMSx4
import Derived.Test.YtgmciklleapocaaPureFnExactDueOn
import Derived.Test.YtgmciklleapocaaArr
import Derived.WalkKit
import Derived.ProofKit
import Derived.OpenShut
import Derived.ShutString
import Derived.ChangeOld
import Derived.Below
import Derived.SizedLaws
namespace Go.Proofs.Ytgmciklleapocaa.fnExactDueOn
open Go.ChangeShapes Go.WideShapes Go.ChangeAt Go.RowKit Go.Proofs.Ytgmciklleapocaa.MS Go.Proofs.YtgmciklleapocaaW.PrintWords Go.Proofs.YtgmciklleapocaaW.PrintLast Go.Proofs.Ytgmciklleapocaa Go.Proofs.Ytgmciklleapocaa.Pure
open Go.ChangeMaps (open_string shut_string)
set_option linter.unusedVariables false
theorem own : ownKnob Try.prog.godebug = none := by kernel_rfl
theorem laidOut : laidOutB Try.prog = true := by kernel_rfl
theorem open_T2 {H : Type} {enc : TypeId × Value → H} {w : World} {base : Nat} {spare : Nat → Bool} {held : Bool} {fuel : Nat} {cs : List Value} {x : DataW H × List MemPlace} (h : DataW.trod enc Try.prog w base spare held fuel 2 cs = some x) :
    ∃ (a_0 : Int), cs = (.int .i64 a_0 :: ([] : List Value)) ∧ (Lit.int .i64 a_0).wf = true := by
  obtain ⟨n, rfl, _, hw⟩ := DataW.trod_int Try.underlying2 h
  exact ⟨n, rfl, hw⟩
theorem open_T23 {H : Type} {enc : TypeId × Value → H} {w : World} {base : Nat} {spare : Nat → Bool} {held : Bool} {fuel : Nat} {cs : List Value} {x : DataW H × List MemPlace} (h : DataW.trod enc Try.prog w base spare held fuel 23 cs = some x) :
    ∃ (a_0 : Int) (a_1 : Int), cs = (.int .i64 a_0 :: (.int .i64 a_1 :: ([] : List Value))) ∧ (Lit.int .i64 a_0).wf = true ∧ (Lit.int .i64 a_1).wf = true := by
  obtain ⟨xs, n, _, _, hl, hlen, hf⟩ := DataW.trod_struct Try.underlying23 h
  have hc : Try.prog.cellsOf 23 = 2 := by kernel_rfl
  rw [hc] at hl
  obtain ⟨y0, hy0⟩ : ∃ y, xs[0]? = some y := ⟨_, List.getElem?_eq_getElem (by rw [hlen]; decide)⟩
  have g0 := hf 0 _ rfl
  rw [hy0] at g0
  obtain ⟨a0_0, e0, w0_0⟩ := open_T2 g0
  have d0 : Try.prog.cellsOf 2 = 1 := by kernel_rfl
  obtain ⟨y1, hy1⟩ : ∃ y, xs[1]? = some y := ⟨_, List.getElem?_eq_getElem (by rw [hlen]; decide)⟩
  have g1 := hf 1 _ rfl
  rw [hy1] at g1
  obtain ⟨a1_0, e1, w1_0⟩ := open_T2 g1
  have d1 : Try.prog.cellsOf 2 = 1 := by kernel_rfl
  refine ⟨a0_0, a1_0, ?_, w0_0, w1_0⟩
  have hs := Arr.pieces2 cs 1 1 (by omega)
  rw [hs]
  have e0' : (cs.drop 0).take 1 = (.int .i64 a0_0 :: ([] : List Value)) := (by have z : (cs.drop 0).take (Try.prog.cellsOf 2) = (.int .i64 a0_0 :: ([] : List Value)) := e0; rw [d0] at z; exact z)
  have e1' : (cs.drop 1).take 1 = (.int .i64 a1_0 :: ([] : List Value)) := (by have z : (cs.drop 1).take (Try.prog.cellsOf 2) = (.int .i64 a1_0 :: ([] : List Value)) := e1; rw [d1] at z; exact z)
  rw [e0', e1'] <;> rfl
theorem open_T25 {H : Type} {enc : TypeId × Value → H} {w : World} {base : Nat} {spare : Nat → Bool} {held : Bool} {fuel : Nat} {cs : List Value} {x : DataW H × List MemPlace} (h : DataW.trod enc Try.prog w base spare held fuel 25 cs = some x) :
    ∃ (a_0 : Int) (a_1 : Int) (a_2 : Int) (a_3 : Int) (a_4 : Int), cs = (.int .i64 a_0 :: (.int .i64 a_1 :: (.int .i64 a_2 :: (.int .i64 a_3 :: (.int .i64 a_4 :: ([] : List Value)))))) ∧ (Lit.int .i64 a_0).wf = true ∧ (Lit.int .i64 a_1).wf = true ∧ (Lit.int .i64 a_2).wf = true ∧ (Lit.int .i64 a_3).wf = true ∧ (Lit.int .i64 a_4).wf = true := by
  obtain ⟨xs, n, _, _, hl, hlen, hf⟩ := DataW.trod_struct Try.underlying25 h
  have hc : Try.prog.cellsOf 25 = 5 := by kernel_rfl
  rw [hc] at hl
  obtain ⟨y0, hy0⟩ : ∃ y, xs[0]? = some y := ⟨_, List.getElem?_eq_getElem (by rw [hlen]; decide)⟩
  have g0 := hf 0 _ rfl
  rw [hy0] at g0
  obtain ⟨a0_0, e0, w0_0⟩ := open_T2 g0
  have d0 : Try.prog.cellsOf 2 = 1 := by kernel_rfl
  obtain ⟨y1, hy1⟩ : ∃ y, xs[1]? = some y := ⟨_, List.getElem?_eq_getElem (by rw [hlen]; decide)⟩
  have g1 := hf 1 _ rfl
  rw [hy1] at g1
  obtain ⟨a1_0, e1, w1_0⟩ := open_T2 g1
  have d1 : Try.prog.cellsOf 2 = 1 := by kernel_rfl
  obtain ⟨y2, hy2⟩ : ∃ y, xs[2]? = some y := ⟨_, List.getElem?_eq_getElem (by rw [hlen]; decide)⟩
  have g2 := hf 2 _ rfl
  rw [hy2] at g2
  obtain ⟨a2_0, a2_1, e2, w2_0, w2_1⟩ := open_T23 g2
  have d2 : Try.prog.cellsOf 23 = 2 := by kernel_rfl
  obtain ⟨y3, hy3⟩ : ∃ y, xs[3]? = some y := ⟨_, List.getElem?_eq_getElem (by rw [hlen]; decide)⟩
  have g3 := hf 3 _ rfl
  rw [hy3] at g3
  obtain ⟨a3_0, e3, w3_0⟩ := open_T2 g3
  have d3 : Try.prog.cellsOf 2 = 1 := by kernel_rfl
  refine ⟨a0_0, a1_0, a2_0, a2_1, a3_0, ?_, w0_0, w1_0, w2_0, w2_1, w3_0⟩
  have hs := Arr.pieces4 cs 1 1 2 1 (by omega)
  rw [hs]
  have e0' : (cs.drop 0).take 1 = (.int .i64 a0_0 :: ([] : List Value)) := (by have z : (cs.drop 0).take (Try.prog.cellsOf 2) = (.int .i64 a0_0 :: ([] : List Value)) := e0; rw [d0] at z; exact z)
  have e1' : (cs.drop 1).take 1 = (.int .i64 a1_0 :: ([] : List Value)) := (by have z : (cs.drop 1).take (Try.prog.cellsOf 2) = (.int .i64 a1_0 :: ([] : List Value)) := e1; rw [d1] at z; exact z)
  have e2' : (cs.drop 2).take 2 = (.int .i64 a2_0 :: (.int .i64 a2_1 :: ([] : List Value))) := (by have z : (cs.drop 2).take (Try.prog.cellsOf 23) = (.int .i64 a2_0 :: (.int .i64 a2_1 :: ([] : List Value))) := e2; rw [d2] at z; exact z)
  have e3' : (cs.drop 4).take 1 = (.int .i64 a3_0 :: ([] : List Value)) := (by have z : (cs.drop 4).take (Try.prog.cellsOf 2) = (.int .i64 a3_0 :: ([] : List Value)) := e3; rw [d3] at z; exact z)
  rw [e0', e1', e2', e3'] <;> rfl
set_option maxRecDepth 100000 in
theorem lifted (os : Os) (started : os.Started) (H : Type) (enc : TypeId × Value → H) :
    ReturnsInHanded {} Try.checked os 3 .any (Rows.fnExactDueOnSpec.pre6 enc Try.prog Try.f3 Rows.fnExactDueOnRow.domain false) (Rows.fnExactDueOnSpec.post enc Try.prog Try.f3 false true false false) := by
  refine returnsInHanded_of_change_sized (C := Try.checked) own started (by kernel_rfl) Try.func3
    (ChangeSpec.witness6 (enc := enc) (C := Try.checked) false ⟨#[], #[.agg #[.int .i64 0, .int .i64 0, .int .i64 0, .int .i64 0, .int .i64 0], .int .i64 0], []⟩ 8 (by kernel_rfl) (by kernel_rfl) (by kernel_rfl) (by kernel_rfl)) ?_
  intro W base args ds gs before hval0 hW hcnd hsz0 _
  have hsz : (DataW.weightsEach Try.prog (Try.f3.params.toList ++ Rows.fnExactDueOnSpec.plain.varTypes Try.prog) (ds ++ gs)).all (· ≤ reachBytes) = true := hsz0
  have hval : ∀ (j : Nat) t v, Try.f3.params[j]? = some t → args[j]? = some v → Value.okWide Try.prog W .any base t v := hval0
  have hW' := hW
  obtain ⟨p, q, hA0, hV, rfl, hfz, hnd⟩ := hW
  have hA : DataW.TrodAll enc Try.prog W 0 (fun _ => true) true Try.f3.params.toList args.toList ds p := hA0
  rw [Try.params3] at hA hval hsz
  obtain ⟨v0, vs0, d0, ds0, p0, q0, hargs, rfl, rfl, h0, r0⟩ := trodAll_cons hA
  obtain ⟨v1, vs1, d1, ds1, p1, q1, rfl, rfl, rfl, h1, r1⟩ := trodAll_cons r0
  obtain ⟨rfl, rfl, rfl⟩ := trodAll_nil r1
  obtain rfl : args = #[v0, v1] := by cases args; simp_all
  obtain ⟨rfl, rfl⟩ := trodVars_none hV
  obtain ⟨⟨cs0⟩, rfl, _⟩ := okWide_struct Try.underlying25 (hval 0 25 v0 rfl rfl)
  have k0 := h0
  have lt0 : ∀ x ∈ p0, x.block < W.heap.size := by obtain ⟨m, hm⟩ := k0; exact DataW.trod_lt m _ _ _ hm
  obtain ⟨m0, hm0⟩ := h0
  obtain ⟨a0_0, a0_1, a0_2, a0_3, a0_4, e0, w0_0, w0_1, w0_2, w0_3, w0_4⟩ := open_T25 hm0
  obtain rfl : cs0 = _ := e0
  obtain ⟨a1, rfl, rfl, rfl, w1⟩ := open_int Try.underlying2 (hval 1 2 v1 rfl rfl) h1
  clear hA0 hval0 hsz0 hsz
  obtain ⟨k, hk⟩ := Pure.FnExactDueOn a0_0 a0_1 a0_2 a0_3 a0_4 a1 w0_0 w0_1 w0_2 w0_3 w0_4 w1
  refine (laws_FnExactDueOn.calls k a0_0 a0_1 a0_2 a0_3 a0_4 a1 true W  hk).mono fun e W' ⟨he, bel0⟩ => ?_
  have bel : Below W.heap.size W W' := by first | exact bel0 | exact Arr.below_of_drawn bel0
  subst he
  exact ⟨_, rfl, _, _, _, [], _, [], hW', trodAll_mk1 (shut_bool Try.underlying4 _), (trodAll_cons_mk (Below.trod laidOut (by kernel_rfl) (of_decide_eq_true (by kernel_rfl)) k0 bel lt0) (trodAll_cons_mk (shut_int Try.underlying2 w1) trodAll_mk0)), rfl, bel.frame _, fun h => by cases h⟩
theorem over : Rows.fnExactDueOnRow.holds Try.pinned (OpenSpec.ofChange Rows.fnExactDueOnSpec) :=
  OpenClaim.holds_of_wide 3 Try.f3 rfl rfl rfl rfl rfl rfl rfl ⟨rfl, rfl, rfl, rfl, rfl⟩ rfl rfl rfl rfl rfl (by kernel_rfl) Try.func3 (by kernel_rfl)
    (of_decide_eq_true (by kernel_rfl)) (by unfold Func.isWrapper; first | (rw [if_pos (by decide +kernel)]; kernel_rfl) | (rw [if_neg (by decide +kernel)]; exact ⟨rfl, rfl⟩))
    (fun os started H enc _ => lifted os started H enc)
theorem proved : Rows.FnExactDueOnSaid := over
#print axioms proved
end Go.Proofs.Ytgmciklleapocaa.fnExactDueOn
namespace Go.Proofs.Ytgmciklleapocaa
/-- The row, under a short name, for the claim. -/
theorem fnExactDueOn_holds : Rows.FnExactDueOnSaid := fnExactDueOn.proved
end Go.Proofs.Ytgmciklleapocaa
