import Derived.Test.YtnnllcdiacpkkaaRows
import Derived.Test.YtnnllcdiacpkkaaMSx8
import Derived.Test.YtnnllcdiacpkkaaPureFnExactInterestFor
import Derived.Test.YtnnllcdiacpkkaaArr
import Derived.WalkKit
import Derived.ProofKit
import Derived.OpenShut
import Derived.ShutString
import Derived.ChangeOld
import Derived.Below
import Derived.SizedLaws
namespace Go.Proofs.Ytnnllcdiacpkkaa.fnExactInterestFor
open Go.ChangeShapes Go.WideShapes Go.ChangeAt Go.RowKit Go.Proofs.Ytnnllcdiacpkkaa.MS Go.Proofs.YtnnllcdiacpkkaaW.PrintWords Go.Proofs.YtnnllcdiacpkkaaW.PrintLast Go.Proofs.Ytnnllcdiacpkkaa Go.Proofs.Ytnnllcdiacpkkaa.Pure
open Go.ChangeMaps (open_string shut_string)
set_option linter.unusedVariables false
theorem own : ownKnob Try.prog.godebug = none := by kernel_rfl
theorem laidOut : laidOutB Try.prog = true := by kernel_rfl
theorem open_T2 {H : Type} {enc : TypeId × Value → H} {w : World} {base : Nat} {spare : Nat → Bool} {held : Bool} {fuel : Nat} {cs : List Value} {x : DataW H × List MemPlace} (h : DataW.trod enc Try.prog w base spare held fuel 2 cs = some x) :
    ∃ (a_0 : Int), cs = (.int .i64 a_0 :: ([] : List Value)) ∧ (Lit.int .i64 a_0).wf = true := by
  obtain ⟨n, rfl, _, hw⟩ := DataW.trod_int Try.underlying2 h
  exact ⟨n, rfl, hw⟩
theorem open_T24 {H : Type} {enc : TypeId × Value → H} {w : World} {base : Nat} {spare : Nat → Bool} {held : Bool} {fuel : Nat} {cs : List Value} {x : DataW H × List MemPlace} (h : DataW.trod enc Try.prog w base spare held fuel 24 cs = some x) :
    ∃ (a_0 : Int) (a_1 : Int), cs = (.int .i64 a_0 :: (.int .i64 a_1 :: ([] : List Value))) ∧ (Lit.int .i64 a_0).wf = true ∧ (Lit.int .i64 a_1).wf = true := by
  obtain ⟨xs, n, _, _, hl, hlen, hf⟩ := DataW.trod_struct Try.underlying24 h
  have hc : Try.prog.cellsOf 24 = 2 := by kernel_rfl
  rw [hc] at hl
  obtain ⟨y0, hy0⟩ : ∃ y, xs[0]? = some y := ⟨_, List.getElem?_eq_getElem (by rw [hlen]; decide)⟩
  have g0 := hf 0 _ rfl
  rw [hy0] at g0
  obtain ⟨a0_0, e0, w0_0⟩ := open_T2 g0
  have d0 : Try.prog.cellsOf 2 = 1 := by kernel_rfl
  obtain ⟨y1, hy1⟩ : ∃ y, xs[1]? = some y := ⟨_, List.getElem?_eq_getElem (by rw [hlen]; decide)⟩
  have g1 := hf 1 _ rfl
  rw [hy1] at g1
  obtain ⟨a1_0, e1, w1_0⟩ := open_T2 g1
  have d1 : Try.prog.cellsOf 2 = 1 := by kernel_rfl
  refine ⟨a0_0, a1_0, ?_, w0_0, w1_0⟩
  have hs := Arr.pieces2 cs 1 1 (by omega)
  rw [hs]
  have e0' : (cs.drop 0).take 1 = (.int .i64 a0_0 :: ([] : List Value)) := (by have z : (cs.drop 0).take (Try.prog.cellsOf 2) = (.int .i64 a0_0 :: ([] : List Value)) := e0; rw [d0] at z; exact z)
  have e1' : (cs.drop 1).take 1 = (.int .i64 a1_0 :: ([] : List Value)) := (by have z : (cs.drop 1).take (Try.prog.cellsOf 2) = (.int .i64 a1_0 :: ([] : List Value)) := e1; rw [d1] at z; exact z)
  rw [e0', e1'] <;> rfl
set_option maxRecDepth 100000 in
theorem lifted (os : Os) (started : os.Started) (H : Type) (enc : TypeId × Value → H) :
    ReturnsInHanded {} Try.checked os 10 .any (Rows.fnExactInterestForSpec.pre6 enc Try.prog Try.f10 Rows.fnExactInterestForRow.domain false) (Rows.fnExactInterestForSpec.post enc Try.prog Try.f10 false true false false) := by
  refine returnsInHanded_of_change_sized (C := Try.checked) own started (by kernel_rfl) Try.func10
    (ChangeSpec.witness6 (enc := enc) (C := Try.checked) false ⟨#[], #[.int .i64 0, .agg #[.int .i64 0, .int .i64 0], .int .i64 0], []⟩ 8 (by kernel_rfl) (by kernel_rfl) (by kernel_rfl) (by kernel_rfl)) ?_
  intro W base args ds gs before hval0 hW hcnd hsz0 _
  have hsz : (DataW.weightsEach Try.prog (Try.f10.params.toList ++ Rows.fnExactInterestForSpec.plain.varTypes Try.prog) (ds ++ gs)).all (· ≤ reachBytes) = true := hsz0
  have hval : ∀ (j : Nat) t v, Try.f10.params[j]? = some t → args[j]? = some v → Value.okWide Try.prog W .any base t v := hval0
  have hW' := hW
  obtain ⟨p, q, hA0, hV, rfl, hfz, hnd⟩ := hW
  have hA : DataW.TrodAll enc Try.prog W 0 (fun _ => true) true Try.f10.params.toList args.toList ds p := hA0
  rw [Try.params10] at hA hval hsz
  obtain ⟨v0, vs0, d0, ds0, p0, q0, hargs, rfl, rfl, h0, r0⟩ := trodAll_cons hA
  obtain ⟨v1, vs1, d1, ds1, p1, q1, rfl, rfl, rfl, h1, r1⟩ := trodAll_cons r0
  obtain ⟨v2, vs2, d2, ds2, p2, q2, rfl, rfl, rfl, h2, r2⟩ := trodAll_cons r1
  obtain ⟨rfl, rfl, rfl⟩ := trodAll_nil r2
  obtain rfl : args = #[v0, v1, v2] := by cases args; simp_all
  obtain ⟨rfl, rfl⟩ := trodVars_none hV
  obtain ⟨a0, rfl, rfl, rfl, w0⟩ := open_int Try.underlying2 (hval 0 2 v0 rfl rfl) h0
  obtain ⟨⟨cs1⟩, rfl, _⟩ := okWide_struct Try.underlying24 (hval 1 24 v1 rfl rfl)
  have k1 := h1
  have lt1 : ∀ x ∈ p1, x.block < W.heap.size := by obtain ⟨m, hm⟩ := k1; exact DataW.trod_lt m _ _ _ hm
  obtain ⟨m1, hm1⟩ := h1
  obtain ⟨a1_0, a1_1, e1, w1_0, w1_1⟩ := open_T24 hm1
  obtain rfl : cs1 = _ := e1
  obtain ⟨a2, rfl, rfl, rfl, w2⟩ := open_int Try.underlying2 (hval 2 2 v2 rfl rfl) h2
  clear hA0 hval0 hsz0 hsz
  obtain ⟨k, hk⟩ := Pure.FnExactInterestFor a0 a1_0 a1_1 a2 w0 w1_0 w1_1 w2
  refine (laws_FnExactInterestFor.calls k a0 a1_0 a1_1 a2 true W  hk).mono fun e W' ⟨he, bel0⟩ => ?_
  have bel : Below W.heap.size W W' := by first | exact bel0 | exact Arr.below_of_drawn bel0
  subst he
  exact ⟨_, rfl, _, _, _, [], _, [], hW', trodAll_mk1 (shut_bool Try.underlying4 _), (trodAll_cons_mk (shut_int Try.underlying2 w0) (trodAll_cons_mk (Below.trod laidOut (by kernel_rfl) (of_decide_eq_true (by kernel_rfl)) k1 bel lt1) (trodAll_cons_mk (shut_int Try.underlying2 w2) trodAll_mk0))), rfl, bel.frame _, fun h => by cases h⟩
theorem over : Rows.fnExactInterestForRow.holds Try.pinned (OpenSpec.ofChange Rows.fnExactInterestForSpec) :=
  OpenClaim.holds_of_wide 10 Try.f10 rfl rfl rfl rfl rfl rfl rfl ⟨rfl, rfl, rfl, rfl, rfl⟩ rfl rfl rfl rfl rfl (by kernel_rfl) Try.func10 (by kernel_rfl)
    (of_decide_eq_true (by kernel_rfl)) (by unfold Func.isWrapper; first | (rw [if_pos (by decide +kernel)]; kernel_rfl) | (rw [if_neg (by decide +kernel)]; exact ⟨rfl, rfl⟩))
    (fun os started H enc _ => lifted os started H enc)
theorem proved : Rows.FnExactInterestForSaid := over
#print axioms proved
end Go.Proofs.Ytnnllcdiacpkkaa.fnExactInterestFor
namespace Go.Proofs.Ytnnllcdiacpkkaa
/-- The row, under a short name, for the claim. -/
theorem fnExactInterestFor_holds : Rows.FnExactInterestForSaid := fnExactInterestFor.proved
end Go.Proofs.Ytnnllcdiacpkkaa
