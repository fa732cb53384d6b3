import Derived.Test.YtofcgkcpkngocaaRows
import Derived.Test.YtofcgkcpkngocaaMCirclesx17
import Derived.Test.YtofcgkcpkngocaaPureFnCircles
import Derived.Test.YtofcgkcpkngocaaVCirclesArr
import Derived.WalkKit
import Derived.ProofKit
import Derived.OpenShut
import Derived.ShutString
import Derived.ChangeOld
import Derived.Below
import Derived.SizedLaws
namespace Go.Proofs.Ytofcgkcpkngocaa.fnCircles
open Go.ChangeShapes Go.WideShapes Go.ChangeAt Go.RowKit Go.Proofs.Ytofcgkcpkngocaa.MCircles Go.Proofs.YtofcgkcpkngocaaW.PrintWords Go.Proofs.YtofcgkcpkngocaaW.PrintLast Go.Proofs.Ytofcgkcpkngocaa Go.Proofs.Ytofcgkcpkngocaa.Pure
open Go.ChangeMaps (open_string shut_string)
set_option linter.unusedVariables false
theorem own : ownKnob Try.prog.godebug = none := by kernel_rfl
theorem laidOut : laidOutB Try.prog = true := by kernel_rfl
def ok5 (z : Int) : Prop := (Lit.int .u8 z).wf = true
theorem open_T5 {H : Type} {enc : TypeId × Value → H} {w : World} {base : Nat} {spare : Nat → Bool} {held : Bool} {fuel : Nat} {cs : List Value} {x : DataW H × List MemPlace} (h : DataW.trod enc Try.prog w base spare held fuel 5 cs = some x) :
    ∃ (a_0 : Int), cs = (.int .u8 a_0 :: ([] : List Value)) ∧ (Lit.int .u8 a_0).wf = true := by
  obtain ⟨n, rfl, _, hw⟩ := DataW.trod_int Try.underlying5 h
  exact ⟨n, rfl, hw⟩
theorem open_T52 {H : Type} {enc : TypeId × Value → H} {w : World} {base : Nat} {spare : Nat → Bool} {held : Bool} {fuel : Nat} {cs : List Value} {x : DataW H × List MemPlace} (h : DataW.trod enc Try.prog w base spare held fuel 52 cs = some x) :
    ∃ (A_0 : Option Addr) (n_0 : Nat) (c_0 : Nat) (l_0 : List Int), cs = (.slice A_0 n_0 c_0 :: ([] : List Value)) ∧ (l_0.length = n_0 ∧ n_0 ≤ c_0 ∧ c_0 ≤ maxLen ∧ Kd.C (Kd.int .u8) w A_0 n_0 l_0 ∧ ∀ z ∈ l_0, ok5 z) := by
  obtain ⟨A, n, c, l, rfl, h1, h2, h3, h4, h5⟩ := Arr.trod_row (Kd.int .u8) Try.underlying52 (ok := ok5) (by kernel_rfl) (fun _ _ _ hz => by obtain ⟨n, rfl, hw⟩ := open_T5 hz; exact ⟨n, rfl, hw⟩) h
  exact ⟨A, n, c, l, rfl, h1, h2, h3, h4, h5⟩
set_option maxRecDepth 100000 in
theorem lifted (os : Os) (started : os.Started) (H : Type) (enc : TypeId × Value → H) :
    ReturnsInHanded {} Try.checked os 13 .any (Rows.fnCirclesSpec.pre6 enc Try.prog Try.f13 Rows.fnCirclesRow.domain false) (Rows.fnCirclesSpec.post enc Try.prog Try.f13 false true false false) := by
  refine returnsInHanded_of_change_sized (C := Try.checked) own started (by kernel_rfl) Try.func13
    (ChangeSpec.witness6 (enc := enc) (C := Try.checked) false ⟨#[], #[.slice none 0 0], []⟩ 8 (by kernel_rfl) (by kernel_rfl) (by kernel_rfl) (by kernel_rfl)) ?_
  intro W base args ds gs before hval0 hW hcnd hsz0 _
  have hsz : (DataW.weightsEach Try.prog (Try.f13.params.toList ++ Rows.fnCirclesSpec.plain.varTypes Try.prog) (ds ++ gs)).all (· ≤ reachBytes) = true := hsz0
  have hval : ∀ (j : Nat) t v, Try.f13.params[j]? = some t → args[j]? = some v → Value.okWide Try.prog W .any base t v := hval0
  have hW' := hW
  obtain ⟨p, q, hA0, hV, rfl, hfz, hnd⟩ := hW
  have hA : DataW.TrodAll enc Try.prog W 0 (fun _ => true) true Try.f13.params.toList args.toList ds p := hA0
  rw [Try.params13] at hA hval hsz
  obtain ⟨v0, vs0, d0, ds0, p0, q0, hargs, rfl, rfl, h0, r0⟩ := trodAll_cons hA
  obtain ⟨rfl, rfl, rfl⟩ := trodAll_nil r0
  obtain rfl : args = #[v0] := by cases args; simp_all
  obtain ⟨rfl, rfl⟩ := trodVars_none hV
  obtain ⟨A0_, n0_, c0_, rfl⟩ := okWide_slice Try.underlying52 (hval 0 52 v0 rfl rfl)
  have k0 := h0
  have lt0 : ∀ x ∈ p0, x.block < W.heap.size := by obtain ⟨m, hm⟩ := k0; exact DataW.trod_lt m _ _ _ hm
  obtain ⟨m0, hm0⟩ := h0
  obtain ⟨A0_0, n0_0, c0_0, l0_0, e0, w0_0⟩ := open_T52 hm0
  simp only [Value.cells] at e0
  injection e0 with e0 _
  injection e0 with e0a e0b e0c
  subst e0a
  subst e0b
  subst e0c
  obtain ⟨y0_0, z0_0, x0_0, u0_0, o0_0⟩ := w0_0
  subst y0_0
  clear hA0 hval0 hsz0 hsz
  obtain ⟨k, hk⟩ := Pure.FnCircles l0_0 (Nat.le_trans z0_0 x0_0) o0_0
  refine (laws_FnCircles.calls k _ _ l0_0 true W u0_0 z0_0 hk rfl).mono fun e W' ⟨he, bel0⟩ => ?_
  have bel : Below W.heap.size W W' := by first | exact bel0 | exact Arr.below_of_drawn bel0
  subst he
  exact ⟨_, rfl, _, _, _, [], _, [], hW', trodAll_mk1 (shut_bool Try.underlying4 _), (trodAll_cons_mk (Below.trod laidOut (by kernel_rfl) (of_decide_eq_true (by kernel_rfl)) k0 bel lt0) trodAll_mk0), rfl, bel.frame _, fun h => by cases h⟩
theorem over : Rows.fnCirclesRow.holds Try.pinned (OpenSpec.ofChange Rows.fnCirclesSpec) :=
  OpenClaim.holds_of_wide 13 Try.f13 rfl rfl rfl rfl rfl rfl rfl ⟨rfl, rfl, rfl, rfl, rfl⟩ rfl rfl rfl rfl rfl (by kernel_rfl) Try.func13 (by kernel_rfl)
    (of_decide_eq_true (by kernel_rfl)) (by unfold Func.isWrapper; first | (rw [if_pos (by decide +kernel)]; kernel_rfl) | (rw [if_neg (by decide +kernel)]; exact ⟨rfl, rfl⟩))
    (fun os started H enc _ => lifted os started H enc)
theorem proved : Rows.FnCirclesSaid := over
#print axioms proved
end Go.Proofs.Ytofcgkcpkngocaa.fnCircles
namespace Go.Proofs.Ytofcgkcpkngocaa
/-- The row, under a short name, for the claim. -/
theorem fnCircles_holds : Rows.FnCirclesSaid := fnCircles.proved
end Go.Proofs.Ytofcgkcpkngocaa
