import Derived.Test.YtofcgkcpkngocaaRows
import Derived.Test.YtofcgkcpkngocaaMCanPayFromx9
import Derived.Test.YtofcgkcpkngocaaPureFnExactCanPayFrom
import Derived.Test.YtofcgkcpkngocaaVCanPayFromArr
import Derived.WalkKit
import Derived.ProofKit
import Derived.OpenShut
import Derived.ShutString
import Derived.ChangeOld
import Derived.Below
import Derived.SizedLaws
namespace Go.Proofs.Ytofcgkcpkngocaa.fnExactCanPayFrom
open Go.ChangeShapes Go.WideShapes Go.ChangeAt Go.RowKit Go.Proofs.Ytofcgkcpkngocaa.MCanPayFrom Go.Proofs.YtofcgkcpkngocaaW.PrintWords Go.Proofs.YtofcgkcpkngocaaW.PrintLast Go.Proofs.Ytofcgkcpkngocaa Go.Proofs.Ytofcgkcpkngocaa.Pure
open Go.ChangeMaps (open_string shut_string)
set_option linter.unusedVariables false
theorem own : ownKnob Try.prog.godebug = none := by kernel_rfl
theorem laidOut : laidOutB Try.prog = true := by kernel_rfl
def ok67 (z : S67) : Prop := (Lit.int .i64 z.f0).wf = true ∧ (Lit.int .i64 z.f1).wf = true ∧ (Lit.int .i64 z.f2).wf = true
def ok2 (z : Int) : Prop := (Lit.int .i64 z).wf = true
theorem open_T2 {H : Type} {enc : TypeId × Value → H} {w : World} {base : Nat} {spare : Nat → Bool} {held : Bool} {fuel : Nat} {cs : List Value} {x : DataW H × List MemPlace} (h : DataW.trod enc Try.prog w base spare held fuel 2 cs = some x) :
    ∃ (a_0 : Int), cs = (.int .i64 a_0 :: ([] : List Value)) ∧ (Lit.int .i64 a_0).wf = true := by
  obtain ⟨n, rfl, _, hw⟩ := DataW.trod_int Try.underlying2 h
  exact ⟨n, rfl, hw⟩
theorem open_T67 {H : Type} {enc : TypeId × Value → H} {w : World} {base : Nat} {spare : Nat → Bool} {held : Bool} {fuel : Nat} {cs : List Value} {x : DataW H × List MemPlace} (h : DataW.trod enc Try.prog w base spare held fuel 67 cs = some x) :
    ∃ (a_0 : Int) (a_1 : Int) (a_2 : Int), cs = (.int .i64 a_0 :: (.int .i64 a_1 :: (.int .i64 a_2 :: ([] : List Value)))) ∧ (Lit.int .i64 a_0).wf = true ∧ (Lit.int .i64 a_1).wf = true ∧ (Lit.int .i64 a_2).wf = true := by
  obtain ⟨xs, n, _, _, hl, hlen, hf⟩ := DataW.trod_struct Try.underlying67 h
  have hc : Try.prog.cellsOf 67 = 3 := by kernel_rfl
  rw [hc] at hl
  obtain ⟨y0, hy0⟩ : ∃ y, xs[0]? = some y := ⟨_, List.getElem?_eq_getElem (by rw [hlen]; decide)⟩
  have g0 := hf 0 _ rfl
  rw [hy0] at g0
  obtain ⟨a0_0, e0, w0_0⟩ := open_T2 g0
  have d0 : Try.prog.cellsOf 2 = 1 := by kernel_rfl
  obtain ⟨y1, hy1⟩ : ∃ y, xs[1]? = some y := ⟨_, List.getElem?_eq_getElem (by rw [hlen]; decide)⟩
  have g1 := hf 1 _ rfl
  rw [hy1] at g1
  obtain ⟨a1_0, e1, w1_0⟩ := open_T2 g1
  have d1 : Try.prog.cellsOf 2 = 1 := by kernel_rfl
  obtain ⟨y2, hy2⟩ : ∃ y, xs[2]? = some y := ⟨_, List.getElem?_eq_getElem (by rw [hlen]; decide)⟩
  have g2 := hf 2 _ rfl
  rw [hy2] at g2
  obtain ⟨a2_0, e2, w2_0⟩ := open_T2 g2
  have d2 : Try.prog.cellsOf 2 = 1 := by kernel_rfl
  refine ⟨a0_0, a1_0, a2_0, ?_, w0_0, w1_0, w2_0⟩
  have hs := Arr.pieces3 cs 1 1 1 (by omega)
  rw [hs]
  have e0' : (cs.drop 0).take 1 = (.int .i64 a0_0 :: ([] : List Value)) := (by have z : (cs.drop 0).take (Try.prog.cellsOf 2) = (.int .i64 a0_0 :: ([] : List Value)) := e0; rw [d0] at z; exact z)
  have e1' : (cs.drop 1).take 1 = (.int .i64 a1_0 :: ([] : List Value)) := (by have z : (cs.drop 1).take (Try.prog.cellsOf 2) = (.int .i64 a1_0 :: ([] : List Value)) := e1; rw [d1] at z; exact z)
  have e2' : (cs.drop 2).take 1 = (.int .i64 a2_0 :: ([] : List Value)) := (by have z : (cs.drop 2).take (Try.prog.cellsOf 2) = (.int .i64 a2_0 :: ([] : List Value)) := e2; rw [d2] at z; exact z)
  rw [e0', e1', e2'] <;> rfl
theorem open_T22 {H : Type} {enc : TypeId × Value → H} {w : World} {base : Nat} {spare : Nat → Bool} {held : Bool} {fuel : Nat} {cs : List Value} {x : DataW H × List MemPlace} (h : DataW.trod enc Try.prog w base spare held fuel 22 cs = some x) :
    ∃ (A_0 : Option Addr) (n_0 : Nat) (c_0 : Nat) (l_0 : List S67), cs = (.slice A_0 n_0 c_0 :: ([] : List Value)) ∧ (l_0.length = n_0 ∧ n_0 ≤ c_0 ∧ c_0 ≤ maxLen ∧ Kd.C k67 w A_0 n_0 l_0 ∧ ∀ z ∈ l_0, ok67 z) := by
  obtain ⟨A, n, c, l, rfl, h1, h2, h3, h4, h5⟩ := Arr.trod_row k67 Try.underlying22 (ok := ok67) (by kernel_rfl) (fun _ _ _ hz => by obtain ⟨z0, z1, z2, rfl, q0, q1, q2⟩ := open_T67 hz; exact ⟨(⟨z0, z1, z2⟩ : S67), k67_mk _ _, ⟨q0, q1, q2⟩⟩) h
  exact ⟨A, n, c, l, rfl, h1, h2, h3, h4, h5⟩
theorem open_T34 {H : Type} {enc : TypeId × Value → H} {w : World} {base : Nat} {spare : Nat → Bool} {held : Bool} {fuel : Nat} {cs : List Value} {x : DataW H × List MemPlace} (h : DataW.trod enc Try.prog w base spare held fuel 34 cs = some x) :
    ∃ (A_0 : Option Addr) (n_0 : Nat) (c_0 : Nat) (l_0 : List Int), cs = (.slice A_0 n_0 c_0 :: ([] : List Value)) ∧ (l_0.length = n_0 ∧ n_0 ≤ c_0 ∧ c_0 ≤ maxLen ∧ Kd.C (Kd.int .i64) w A_0 n_0 l_0 ∧ ∀ z ∈ l_0, ok2 z) := by
  obtain ⟨A, n, c, l, rfl, h1, h2, h3, h4, h5⟩ := Arr.trod_row (Kd.int .i64) Try.underlying34 (ok := ok2) (by kernel_rfl) (fun _ _ _ hz => by obtain ⟨n, rfl, hw⟩ := open_T2 hz; exact ⟨n, rfl, hw⟩) h
  exact ⟨A, n, c, l, rfl, h1, h2, h3, h4, h5⟩
set_option maxRecDepth 100000 in
theorem lifted (os : Os) (started : os.Started) (H : Type) (enc : TypeId × Value → H) :
    ReturnsInHanded {} Try.checked os 12 .any (Rows.fnExactCanPayFromSpec.pre6 enc Try.prog Try.f12 Rows.fnExactCanPayFromRow.domain false) (Rows.fnExactCanPayFromSpec.post enc Try.prog Try.f12 false true false false) := by
  refine returnsInHanded_of_change_sized (C := Try.checked) own started (by kernel_rfl) Try.func12
    (ChangeSpec.witness6 (enc := enc) (C := Try.checked) false ⟨#[], #[.int .i64 0, .slice none 0 0, .slice none 0 0], []⟩ 8 (by kernel_rfl) (by kernel_rfl) (by kernel_rfl) (by kernel_rfl)) ?_
  intro W base args ds gs before hval0 hW hcnd hsz0 _
  have hsz : (DataW.weightsEach Try.prog (Try.f12.params.toList ++ Rows.fnExactCanPayFromSpec.plain.varTypes Try.prog) (ds ++ gs)).all (· ≤ reachBytes) = true := hsz0
  have hval : ∀ (j : Nat) t v, Try.f12.params[j]? = some t → args[j]? = some v → Value.okWide Try.prog W .any base t v := hval0
  have hW' := hW
  obtain ⟨p, q, hA0, hV, rfl, hfz, hnd⟩ := hW
  have hA : DataW.TrodAll enc Try.prog W 0 (fun _ => true) true Try.f12.params.toList args.toList ds p := hA0
  rw [Try.params12] at hA hval hsz
  obtain ⟨v0, vs0, d0, ds0, p0, q0, hargs, rfl, rfl, h0, r0⟩ := trodAll_cons hA
  obtain ⟨v1, vs1, d1, ds1, p1, q1, rfl, rfl, rfl, h1, r1⟩ := trodAll_cons r0
  obtain ⟨v2, vs2, d2, ds2, p2, q2, rfl, rfl, rfl, h2, r2⟩ := trodAll_cons r1
  obtain ⟨rfl, rfl, rfl⟩ := trodAll_nil r2
  obtain rfl : args = #[v0, v1, v2] := by cases args; simp_all
  obtain ⟨rfl, rfl⟩ := trodVars_none hV
  obtain ⟨a0, rfl, rfl, rfl, w0⟩ := open_int Try.underlying2 (hval 0 2 v0 rfl rfl) h0
  obtain ⟨A1_, n1_, c1_, rfl⟩ := okWide_slice Try.underlying22 (hval 1 22 v1 rfl rfl)
  have k1 := h1
  have lt1 : ∀ x ∈ p1, x.block < W.heap.size := by obtain ⟨m, hm⟩ := k1; exact DataW.trod_lt m _ _ _ hm
  obtain ⟨m1, hm1⟩ := h1
  obtain ⟨A1_0, n1_0, c1_0, l1_0, e1, w1_0⟩ := open_T22 hm1
  simp only [Value.cells] at e1
  injection e1 with e1 _
  injection e1 with e1a e1b e1c
  subst e1a
  subst e1b
  subst e1c
  obtain ⟨y1_0, z1_0, x1_0, u1_0, o1_0⟩ := w1_0
  subst y1_0
  obtain ⟨A2_, n2_, c2_, rfl⟩ := okWide_slice Try.underlying34 (hval 2 34 v2 rfl rfl)
  have k2 := h2
  have lt2 : ∀ x ∈ p2, x.block < W.heap.size := by obtain ⟨m, hm⟩ := k2; exact DataW.trod_lt m _ _ _ hm
  obtain ⟨m2, hm2⟩ := h2
  obtain ⟨A2_0, n2_0, c2_0, l2_0, e2, w2_0⟩ := open_T34 hm2
  simp only [Value.cells] at e2
  injection e2 with e2 _
  injection e2 with e2a e2b e2c
  subst e2a
  subst e2b
  subst e2c
  obtain ⟨y2_0, z2_0, x2_0, u2_0, o2_0⟩ := w2_0
  subst y2_0
  clear hA0 hval0 hsz0 hsz
  obtain ⟨k, hk⟩ := Pure.FnExactCanPayFrom a0 l1_0 l2_0 w0 (Nat.le_trans z1_0 x1_0) o1_0 (Nat.le_trans z2_0 x2_0) o2_0
  refine (laws_FnExactCanPayFrom.calls k a0 _ _ l1_0 _ _ l2_0 true W u1_0 z1_0 u2_0 z2_0 hk rfl).mono fun e W' ⟨he, bel0⟩ => ?_
  have bel : Below W.heap.size W W' := by first | exact bel0 | exact Arr.below_of_drawn bel0
  subst he
  exact ⟨_, rfl, _, _, _, [], _, [], hW', trodAll_mk1 (shut_bool Try.underlying4 _), (trodAll_cons_mk (shut_int Try.underlying2 w0) (trodAll_cons_mk (Below.trod laidOut (by kernel_rfl) (of_decide_eq_true (by kernel_rfl)) k1 bel lt1) (trodAll_cons_mk (Below.trod laidOut (by kernel_rfl) (of_decide_eq_true (by kernel_rfl)) k2 bel lt2) trodAll_mk0))), rfl, bel.frame _, fun h => by cases h⟩
theorem over : Rows.fnExactCanPayFromRow.holds Try.pinned (OpenSpec.ofChange Rows.fnExactCanPayFromSpec) :=
  OpenClaim.holds_of_wide 12 Try.f12 rfl rfl rfl rfl rfl rfl rfl ⟨rfl, rfl, rfl, rfl, rfl⟩ rfl rfl rfl rfl rfl (by kernel_rfl) Try.func12 (by kernel_rfl)
    (of_decide_eq_true (by kernel_rfl)) (by unfold Func.isWrapper; first | (rw [if_pos (by decide +kernel)]; kernel_rfl) | (rw [if_neg (by decide +kernel)]; exact ⟨rfl, rfl⟩))
    (fun os started H enc _ => lifted os started H enc)
theorem proved : Rows.FnExactCanPayFromSaid := over
#print axioms proved
end Go.Proofs.Ytofcgkcpkngocaa.fnExactCanPayFrom
namespace Go.Proofs.Ytofcgkcpkngocaa
/-- The row, under a short name, for the claim. -/
theorem fnExactCanPayFrom_holds : Rows.FnExactCanPayFromSaid := fnExactCanPayFrom.proved
end Go.Proofs.Ytofcgkcpkngocaa
