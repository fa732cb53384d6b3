import Derived.Test.YtcblnnfodpglaaaRows
import Derived.Test.YtcblnnfodpglaaaMRoomForx8
import Derived.Test.YtcblnnfodpglaaaPureFnExactRoomFor
import Derived.Test.YtcblnnfodpglaaaVRoomForArr
import Derived.WalkKit
import Derived.ProofKit
import Derived.OpenShut
import Derived.ShutString
import Derived.ChangeOld
import Derived.Below
import Derived.SizedLaws
namespace Go.Proofs.Ytcblnnfodpglaaa.fnExactRoomFor
open Go.ChangeShapes Go.WideShapes Go.ChangeAt Go.RowKit Go.Proofs.Ytcblnnfodpglaaa.MRoomFor Go.Proofs.YtcblnnfodpglaaaW.PrintWords Go.Proofs.YtcblnnfodpglaaaW.PrintLast Go.Proofs.Ytcblnnfodpglaaa Go.Proofs.Ytcblnnfodpglaaa.Pure
open Go.ChangeMaps (open_string shut_string)
set_option linter.unusedVariables false
theorem own : ownKnob Try.prog.godebug = none := by kernel_rfl
theorem laidOut : laidOutB Try.prog = true := by kernel_rfl
def ok107 (z : S107) : Prop := (Lit.int .i8 z.f0).wf = true ∧ (Lit.int .i16 z.f1).wf = true
theorem open_T4 {H : Type} {enc : TypeId × Value → H} {w : World} {base : Nat} {spare : Nat → Bool} {held : Bool} {fuel : Nat} {cs : List Value} {x : DataW H × List MemPlace} (h : DataW.trod enc Try.prog w base spare held fuel 4 cs = some x) :
    ∃ (a_0 : Bool), cs = (.bool a_0 :: ([] : List Value)) := by
  obtain ⟨n, rfl, _⟩ := DataW.trod_bool Try.underlying4 h
  exact ⟨n, rfl⟩
theorem open_T22 {H : Type} {enc : TypeId × Value → H} {w : World} {base : Nat} {spare : Nat → Bool} {held : Bool} {fuel : Nat} {cs : List Value} {x : DataW H × List MemPlace} (h : DataW.trod enc Try.prog w base spare held fuel 22 cs = some x) :
    ∃ (a_0 : Int), cs = (.int .i8 a_0 :: ([] : List Value)) ∧ (Lit.int .i8 a_0).wf = true := by
  obtain ⟨n, rfl, _, hw⟩ := DataW.trod_int Try.underlying22 h
  exact ⟨n, rfl, hw⟩
theorem open_T69 {H : Type} {enc : TypeId × Value → H} {w : World} {base : Nat} {spare : Nat → Bool} {held : Bool} {fuel : Nat} {cs : List Value} {x : DataW H × List MemPlace} (h : DataW.trod enc Try.prog w base spare held fuel 69 cs = some x) :
    ∃ (a_0 : Int), cs = (.int .i16 a_0 :: ([] : List Value)) ∧ (Lit.int .i16 a_0).wf = true := by
  obtain ⟨n, rfl, _, hw⟩ := DataW.trod_int Try.underlying69 h
  exact ⟨n, rfl, hw⟩
theorem open_T107 {H : Type} {enc : TypeId × Value → H} {w : World} {base : Nat} {spare : Nat → Bool} {held : Bool} {fuel : Nat} {cs : List Value} {x : DataW H × List MemPlace} (h : DataW.trod enc Try.prog w base spare held fuel 107 cs = some x) :
    ∃ (a_0 : Int) (a_1 : Int), cs = (.int .i8 a_0 :: (.int .i16 a_1 :: ([] : List Value))) ∧ (Lit.int .i8 a_0).wf = true ∧ (Lit.int .i16 a_1).wf = true := by
  obtain ⟨xs, n, _, _, hl, hlen, hf⟩ := DataW.trod_struct Try.underlying107 h
  have hc : Try.prog.cellsOf 107 = 2 := by kernel_rfl
  rw [hc] at hl
  obtain ⟨y0, hy0⟩ : ∃ y, xs[0]? = some y := ⟨_, List.getElem?_eq_getElem (by rw [hlen]; decide)⟩
  have g0 := hf 0 _ rfl
  rw [hy0] at g0
  obtain ⟨a0_0, e0, w0_0⟩ := open_T22 g0
  have d0 : Try.prog.cellsOf 22 = 1 := by kernel_rfl
  obtain ⟨y1, hy1⟩ : ∃ y, xs[1]? = some y := ⟨_, List.getElem?_eq_getElem (by rw [hlen]; decide)⟩
  have g1 := hf 1 _ rfl
  rw [hy1] at g1
  obtain ⟨a1_0, e1, w1_0⟩ := open_T69 g1
  have d1 : Try.prog.cellsOf 69 = 1 := by kernel_rfl
  refine ⟨a0_0, a1_0, ?_, w0_0, w1_0⟩
  have hs := Arr.pieces2 cs 1 1 (by omega)
  rw [hs]
  have e0' : (cs.drop 0).take 1 = (.int .i8 a0_0 :: ([] : List Value)) := (by have z : (cs.drop 0).take (Try.prog.cellsOf 22) = (.int .i8 a0_0 :: ([] : List Value)) := e0; rw [d0] at z; exact z)
  have e1' : (cs.drop 1).take 1 = (.int .i16 a1_0 :: ([] : List Value)) := (by have z : (cs.drop 1).take (Try.prog.cellsOf 69) = (.int .i16 a1_0 :: ([] : List Value)) := e1; rw [d1] at z; exact z)
  rw [e0', e1'] <;> rfl
theorem open_T52 {H : Type} {enc : TypeId × Value → H} {w : World} {base : Nat} {spare : Nat → Bool} {held : Bool} {fuel : Nat} {cs : List Value} {x : DataW H × List MemPlace} (h : DataW.trod enc Try.prog w base spare held fuel 52 cs = some x) :
    ∃ (A_0 : Option Addr) (n_0 : Nat) (c_0 : Nat) (l_0 : List S107), cs = (.slice A_0 n_0 c_0 :: ([] : List Value)) ∧ (l_0.length = n_0 ∧ n_0 ≤ c_0 ∧ c_0 ≤ maxLen ∧ Kd.C k107 w A_0 n_0 l_0 ∧ ∀ z ∈ l_0, ok107 z) := by
  obtain ⟨A, n, c, l, rfl, h1, h2, h3, h4, h5⟩ := Arr.trod_row k107 Try.underlying52 (ok := ok107) (by kernel_rfl) (fun _ _ _ hz => by obtain ⟨z0, z1, rfl, q0, q1⟩ := open_T107 hz; exact ⟨(⟨z0, z1⟩ : S107), k107_mk _ _, ⟨q0, q1⟩⟩) h
  exact ⟨A, n, c, l, rfl, h1, h2, h3, h4, h5⟩
theorem open_T23 {H : Type} {enc : TypeId × Value → H} {w : World} {base : Nat} {spare : Nat → Bool} {held : Bool} {fuel : Nat} {cs : List Value} {x : DataW H × List MemPlace} (h : DataW.trod enc Try.prog w base spare held fuel 23 cs = some x) :
    ∃ (a_0 : Vector Int 16), cs = Arr.arL .i8 a_0 ∧ Arr.ArrWf .i8 a_0 := by
  obtain ⟨v, rfl, hv⟩ := Arr.trod_ints Try.underlying23 Try.underlying22 (by kernel_rfl) (by kernel_rfl) h
  exact ⟨v, rfl, hv⟩
theorem open_T54 {H : Type} {enc : TypeId × Value → H} {w : World} {base : Nat} {spare : Nat → Bool} {held : Bool} {fuel : Nat} {cs : List Value} {x : DataW H × List MemPlace} (h : DataW.trod enc Try.prog w base spare held fuel 54 cs = some x) :
    ∃ (a_0 : Bool) (A_1 : Option Addr) (n_1 : Nat) (c_1 : Nat) (l_1 : List S107) (a_2 : Vector Int 16), cs = (.bool a_0 :: (.slice A_1 n_1 c_1 :: Arr.arL .i8 a_2)) ∧ (l_1.length = n_1 ∧ n_1 ≤ c_1 ∧ c_1 ≤ maxLen ∧ Kd.C k107 w A_1 n_1 l_1 ∧ ∀ z ∈ l_1, ok107 z) ∧ Arr.ArrWf .i8 a_2 := by
  obtain ⟨xs, n, _, _, hl, hlen, hf⟩ := DataW.trod_struct Try.underlying54 h
  have hc : Try.prog.cellsOf 54 = 18 := by kernel_rfl
  rw [hc] at hl
  obtain ⟨y0, hy0⟩ : ∃ y, xs[0]? = some y := ⟨_, List.getElem?_eq_getElem (by rw [hlen]; decide)⟩
  have g0 := hf 0 _ rfl
  rw [hy0] at g0
  obtain ⟨a0_0, e0⟩ := open_T4 g0
  have d0 : Try.prog.cellsOf 4 = 1 := by kernel_rfl
  obtain ⟨y1, hy1⟩ : ∃ y, xs[1]? = some y := ⟨_, List.getElem?_eq_getElem (by rw [hlen]; decide)⟩
  have g1 := hf 1 _ rfl
  rw [hy1] at g1
  obtain ⟨A1_0, n1_0, c1_0, l1_0, e1, w1_0⟩ := open_T52 g1
  have d1 : Try.prog.cellsOf 52 = 1 := by kernel_rfl
  obtain ⟨y2, hy2⟩ : ∃ y, xs[2]? = some y := ⟨_, List.getElem?_eq_getElem (by rw [hlen]; decide)⟩
  have g2 := hf 2 _ rfl
  rw [hy2] at g2
  obtain ⟨a2_0, e2, w2_0⟩ := open_T23 g2
  have d2 : Try.prog.cellsOf 23 = 16 := by kernel_rfl
  refine ⟨a0_0, A1_0, n1_0, c1_0, l1_0, a2_0, ?_, w1_0, w2_0⟩
  have hs := Arr.pieces3 cs 1 1 16 (by omega)
  rw [hs]
  have e0' : (cs.drop 0).take 1 = (.bool a0_0 :: ([] : List Value)) := (by have z : (cs.drop 0).take (Try.prog.cellsOf 4) = (.bool a0_0 :: ([] : List Value)) := e0; rw [d0] at z; exact z)
  have e1' : (cs.drop 1).take 1 = (.slice A1_0 n1_0 c1_0 :: ([] : List Value)) := (by have z : (cs.drop 1).take (Try.prog.cellsOf 52) = (.slice A1_0 n1_0 c1_0 :: ([] : List Value)) := e1; rw [d1] at z; exact z)
  have e2' : (cs.drop 2).take 16 = Arr.arL .i8 a2_0 := (by have z : (cs.drop 2).take (Try.prog.cellsOf 23) = Arr.arL .i8 a2_0 := e2; rw [d2] at z; exact z)
  rw [e0', e1', e2'] <;> rfl
set_option maxRecDepth 100000 in
theorem lifted (os : Os) (started : os.Started) (H : Type) (enc : TypeId × Value → H) :
    ReturnsInHanded {} Try.checked os 6 .any (Rows.fnExactRoomForSpec.pre6 enc Try.prog Try.f6 Rows.fnExactRoomForRow.domain false) (Rows.fnExactRoomForSpec.post enc Try.prog Try.f6 false true false false) := by
  refine returnsInHanded_of_change_sized (C := Try.checked) own started (by kernel_rfl) Try.func6
    (ChangeSpec.witness6 (enc := enc) (C := Try.checked) false ⟨#[], #[.agg #[.bool false, .slice none 0 0, .int .i8 0, .int .i8 0, .int .i8 0, .int .i8 0, .int .i8 0, .int .i8 0, .int .i8 0, .int .i8 0, .int .i8 0, .int .i8 0, .int .i8 0, .int .i8 0, .int .i8 0, .int .i8 0, .int .i8 0, .int .i8 0], .int .i64 0], []⟩ 8 (by kernel_rfl) (by kernel_rfl) (by kernel_rfl) (by kernel_rfl)) ?_
  intro W base args ds gs before hval0 hW hcnd hsz0 _
  have hsz : (DataW.weightsEach Try.prog (Try.f6.params.toList ++ Rows.fnExactRoomForSpec.plain.varTypes Try.prog) (ds ++ gs)).all (· ≤ reachBytes) = true := hsz0
  have hval : ∀ (j : Nat) t v, Try.f6.params[j]? = some t → args[j]? = some v → Value.okWide Try.prog W .any base t v := hval0
  have hW' := hW
  obtain ⟨p, q, hA0, hV, rfl, hfz, hnd⟩ := hW
  have hA : DataW.TrodAll enc Try.prog W 0 (fun _ => true) true Try.f6.params.toList args.toList ds p := hA0
  rw [Try.params6] at hA hval hsz
  obtain ⟨v0, vs0, d0, ds0, p0, q0, hargs, rfl, rfl, h0, r0⟩ := trodAll_cons hA
  obtain ⟨v1, vs1, d1, ds1, p1, q1, rfl, rfl, rfl, h1, r1⟩ := trodAll_cons r0
  obtain ⟨rfl, rfl, rfl⟩ := trodAll_nil r1
  obtain rfl : args = #[v0, v1] := by cases args; simp_all
  obtain ⟨rfl, rfl⟩ := trodVars_none hV
  obtain ⟨⟨cs0⟩, rfl, _⟩ := okWide_struct Try.underlying54 (hval 0 54 v0 rfl rfl)
  have k0 := h0
  have lt0 : ∀ x ∈ p0, x.block < W.heap.size := by obtain ⟨m, hm⟩ := k0; exact DataW.trod_lt m _ _ _ hm
  obtain ⟨m0, hm0⟩ := h0
  obtain ⟨a0_0, A0_1, n0_1, c0_1, l0_1, a0_2, e0, w0_0, w0_1⟩ := open_T54 hm0
  obtain rfl : cs0 = _ := e0
  obtain ⟨y0_1, z0_1, x0_1, u0_1, o0_1⟩ := w0_0
  subst y0_1
  obtain ⟨a1, rfl, rfl, rfl, w1⟩ := open_int Try.underlying2 (hval 1 2 v1 rfl rfl) h1
  clear hA0 hval0 hsz0 hsz
  obtain ⟨k, hk⟩ := Pure.FnExactRoomFor a0_0 l0_1 a0_2 a1 (Nat.le_trans z0_1 x0_1) o0_1 w0_1 w1
  refine (laws_FnExactRoomFor.calls k a0_0 A0_1 c0_1 l0_1 a0_2 a1 true W u0_1 z0_1 hk rfl).mono fun e W' ⟨he, bel0⟩ => ?_
  have bel : Below W.heap.size W W' := by first | exact bel0 | exact Arr.below_of_drawn bel0
  subst he
  exact ⟨_, rfl, _, _, _, [], _, [], hW', trodAll_mk1 (shut_bool Try.underlying4 _), (trodAll_cons_mk (Below.trod laidOut (by kernel_rfl) (of_decide_eq_true (by kernel_rfl)) k0 bel lt0) (trodAll_cons_mk (shut_int Try.underlying2 w1) trodAll_mk0)), rfl, bel.frame _, fun h => by cases h⟩
theorem over : Rows.fnExactRoomForRow.holds Try.pinned (OpenSpec.ofChange Rows.fnExactRoomForSpec) :=
  OpenClaim.holds_of_wide 6 Try.f6 rfl rfl rfl rfl rfl rfl rfl ⟨rfl, rfl, rfl, rfl, rfl⟩ rfl rfl rfl rfl rfl (by kernel_rfl) Try.func6 (by kernel_rfl)
    (of_decide_eq_true (by kernel_rfl)) (by unfold Func.isWrapper; first | (rw [if_pos (by decide +kernel)]; kernel_rfl) | (rw [if_neg (by decide +kernel)]; exact ⟨rfl, rfl⟩))
    (fun os started H enc _ => lifted os started H enc)
theorem proved : Rows.FnExactRoomForSaid := over
#print axioms proved
end Go.Proofs.Ytcblnnfodpglaaa.fnExactRoomFor
namespace Go.Proofs.Ytcblnnfodpglaaa
/-- The row, under a short name, for the claim. -/
theorem fnExactRoomFor_holds : Rows.FnExactRoomForSaid := fnExactRoomFor.proved
end Go.Proofs.Ytcblnnfodpglaaa
