import Derived.Test.YtcblnnfodpglaaaRows
import Derived.Test.YtcblnnfodpglaaaMSticksx13
import Derived.Test.YtcblnnfodpglaaaPureFnSticks
import Derived.Test.YtcblnnfodpglaaaVSticksArr
import Derived.WalkKit
import Derived.ProofKit
import Derived.OpenShut
import Derived.ShutString
import Derived.ChangeOld
import Derived.Below
import Derived.SizedLaws
namespace Go.Proofs.Ytcblnnfodpglaaa.fnSticks
open Go.ChangeShapes Go.WideShapes Go.ChangeAt Go.RowKit Go.Proofs.Ytcblnnfodpglaaa.MSticks Go.Proofs.YtcblnnfodpglaaaW.PrintWords Go.Proofs.YtcblnnfodpglaaaW.PrintLast Go.Proofs.Ytcblnnfodpglaaa Go.Proofs.Ytcblnnfodpglaaa.Pure
open Go.ChangeMaps (open_string shut_string)
set_option linter.unusedVariables false
theorem own : ownKnob Try.prog.godebug = none := by kernel_rfl
theorem laidOut : laidOutB Try.prog = true := by kernel_rfl
def ok5 (z : Int) : Prop := (Lit.int .u8 z).wf = true
theorem open_T5 {H : Type} {enc : TypeId × Value → H} {w : World} {base : Nat} {spare : Nat → Bool} {held : Bool} {fuel : Nat} {cs : List Value} {x : DataW H × List MemPlace} (h : DataW.trod enc Try.prog w base spare held fuel 5 cs = some x) :
    ∃ (a_0 : Int), cs = (.int .u8 a_0 :: ([] : List Value)) ∧ (Lit.int .u8 a_0).wf = true := by
  obtain ⟨n, rfl, _, hw⟩ := DataW.trod_int Try.underlying5 h
  exact ⟨n, rfl, hw⟩
theorem open_T34 {H : Type} {enc : TypeId × Value → H} {w : World} {base : Nat} {spare : Nat → Bool} {held : Bool} {fuel : Nat} {cs : List Value} {x : DataW H × List MemPlace} (h : DataW.trod enc Try.prog w base spare held fuel 34 cs = some x) :
    ∃ (A_0 : Option Addr) (n_0 : Nat) (c_0 : Nat) (l_0 : List Int), cs = (.slice A_0 n_0 c_0 :: ([] : List Value)) ∧ (l_0.length = n_0 ∧ n_0 ≤ c_0 ∧ c_0 ≤ maxLen ∧ Kd.C (Kd.int .u8) w A_0 n_0 l_0 ∧ ∀ z ∈ l_0, ok5 z) := by
  obtain ⟨A, n, c, l, rfl, h1, h2, h3, h4, h5⟩ := Arr.trod_row (Kd.int .u8) Try.underlying34 (ok := ok5) (by kernel_rfl) (fun _ _ _ hz => by obtain ⟨n, rfl, hw⟩ := open_T5 hz; exact ⟨n, rfl, hw⟩) h
  exact ⟨A, n, c, l, rfl, h1, h2, h3, h4, h5⟩
set_option maxRecDepth 100000 in
theorem lifted (os : Os) (started : os.Started) (H : Type) (enc : TypeId × Value → H) :
    ReturnsInHanded {} Try.checked os 4 .any (Rows.fnSticksSpec.pre6 enc Try.prog Try.f4 Rows.fnSticksRow.domain false) (Rows.fnSticksSpec.post enc Try.prog Try.f4 false true false false) := by
  refine returnsInHanded_of_change_sized (C := Try.checked) own started (by kernel_rfl) Try.func4
    (ChangeSpec.witness6 (enc := enc) (C := Try.checked) false ⟨#[], #[.slice none 0 0, .slice none 0 0], []⟩ 8 (by kernel_rfl) (by kernel_rfl) (by kernel_rfl) (by kernel_rfl)) ?_
  intro W base args ds gs before hval0 hW hcnd hsz0 _
  have hsz : (DataW.weightsEach Try.prog (Try.f4.params.toList ++ Rows.fnSticksSpec.plain.varTypes Try.prog) (ds ++ gs)).all (· ≤ reachBytes) = true := hsz0
  have hval : ∀ (j : Nat) t v, Try.f4.params[j]? = some t → args[j]? = some v → Value.okWide Try.prog W .any base t v := hval0
  have hW' := hW
  obtain ⟨p, q, hA0, hV, rfl, hfz, hnd⟩ := hW
  have hA : DataW.TrodAll enc Try.prog W 0 (fun _ => true) true Try.f4.params.toList args.toList ds p := hA0
  rw [Try.params4] at hA hval hsz
  obtain ⟨v0, vs0, d0, ds0, p0, q0, hargs, rfl, rfl, h0, r0⟩ := trodAll_cons hA
  obtain ⟨v1, vs1, d1, ds1, p1, q1, rfl, rfl, rfl, h1, r1⟩ := trodAll_cons r0
  obtain ⟨rfl, rfl, rfl⟩ := trodAll_nil r1
  obtain rfl : args = #[v0, v1] := by cases args; simp_all
  obtain ⟨rfl, rfl⟩ := trodVars_none hV
  obtain ⟨A0_, n0_, c0_, rfl⟩ := okWide_slice Try.underlying34 (hval 0 34 v0 rfl rfl)
  have k0 := h0
  have lt0 : ∀ x ∈ p0, x.block < W.heap.size := by obtain ⟨m, hm⟩ := k0; exact DataW.trod_lt m _ _ _ hm
  obtain ⟨m0, hm0⟩ := h0
  obtain ⟨A0_0, n0_0, c0_0, l0_0, e0, w0_0⟩ := open_T34 hm0
  simp only [Value.cells] at e0
  injection e0 with e0 _
  injection e0 with e0a e0b e0c
  subst e0a
  subst e0b
  subst e0c
  obtain ⟨y0_0, z0_0, x0_0, u0_0, o0_0⟩ := w0_0
  subst y0_0
  obtain ⟨A1_, n1_, c1_, rfl⟩ := okWide_slice Try.underlying34 (hval 1 34 v1 rfl rfl)
  have k1 := h1
  have lt1 : ∀ x ∈ p1, x.block < W.heap.size := by obtain ⟨m, hm⟩ := k1; exact DataW.trod_lt m _ _ _ hm
  obtain ⟨m1, hm1⟩ := h1
  obtain ⟨A1_0, n1_0, c1_0, l1_0, e1, w1_0⟩ := open_T34 hm1
  simp only [Value.cells] at e1
  injection e1 with e1 _
  injection e1 with e1a e1b e1c
  subst e1a
  subst e1b
  subst e1c
  obtain ⟨y1_0, z1_0, x1_0, u1_0, o1_0⟩ := w1_0
  subst y1_0
  clear hA0 hval0 hsz0 hsz
  obtain ⟨k, hk⟩ := Pure.FnSticks l0_0 l1_0 (Nat.le_trans z0_0 x0_0) o0_0 (Nat.le_trans z1_0 x1_0) o1_0
  refine (laws_FnSticks.calls k _ _ l0_0 _ _ l1_0 true W u0_0 z0_0 u1_0 z1_0 hk rfl).mono fun e W' ⟨he, bel0⟩ => ?_
  have bel : Below W.heap.size W W' := by first | exact bel0 | exact Arr.below_of_drawn bel0
  subst he
  exact ⟨_, rfl, _, _, _, [], _, [], hW', trodAll_mk1 (shut_bool Try.underlying4 _), (trodAll_cons_mk (Below.trod laidOut (by kernel_rfl) (of_decide_eq_true (by kernel_rfl)) k0 bel lt0) (trodAll_cons_mk (Below.trod laidOut (by kernel_rfl) (of_decide_eq_true (by kernel_rfl)) k1 bel lt1) trodAll_mk0)), rfl, bel.frame _, fun h => by cases h⟩
theorem over : Rows.fnSticksRow.holds Try.pinned (OpenSpec.ofChange Rows.fnSticksSpec) :=
  OpenClaim.holds_of_wide 4 Try.f4 rfl rfl rfl rfl rfl rfl rfl ⟨rfl, rfl, rfl, rfl, rfl⟩ rfl rfl rfl rfl rfl (by kernel_rfl) Try.func4 (by kernel_rfl)
    (of_decide_eq_true (by kernel_rfl)) (by unfold Func.isWrapper; first | (rw [if_pos (by decide +kernel)]; kernel_rfl) | (rw [if_neg (by decide +kernel)]; exact ⟨rfl, rfl⟩))
    (fun os started H enc _ => lifted os started H enc)
theorem proved : Rows.FnSticksSaid := over
#print axioms proved
end Go.Proofs.Ytcblnnfodpglaaa.fnSticks
namespace Go.Proofs.Ytcblnnfodpglaaa
/-- The row, under a short name, for the claim. -/
theorem fnSticks_holds : Rows.FnSticksSaid := fnSticks.proved
end Go.Proofs.Ytcblnnfodpglaaa
