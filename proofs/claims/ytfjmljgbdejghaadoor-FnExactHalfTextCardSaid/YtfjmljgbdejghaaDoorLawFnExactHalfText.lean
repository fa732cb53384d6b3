import Derived.Test.YtfjmljgbdejghaaDoorRows
import Derived.Test.YtfjmljgbdejghaaDoorMHalfTextx8
import Derived.Test.YtfjmljgbdejghaaDoorPureFnExactHalfText
import Derived.Test.YtfjmljgbdejghaaDoorArr
import Derived.Test.YtfjmljgbdejghaaDoorCards
import Derived.Test.YtfjmljgbdejghaaDoorTie
import Derived.Test.YtfjmljgbdejghaaDoorTt
import Derived.Deep.DeepHandedRow
import Derived.Lib.LaidTab
import Derived.LaidSub
import Derived.MakeChecks
import Derived.LaidLaws
import Derived.SevenTiedAt
import Derived.WalkKit
import Derived.ProofKit
import Derived.OpenShut
import Derived.ShutString
import Derived.ChangeOld
import Derived.Below
import Derived.SizedLaws
namespace Go.Proofs.YtfjmljgbdejghaaDoor.fnExactHalfText
open Go.ChangeShapes Go.WideShapes Go.ChangeAt Go.RowKit Go.Proofs.YtfjmljgbdejghaaDoor.MHalfText Go.Proofs.YtfjmljgbdejghaaDoorW.PrintWords Go.Proofs.YtfjmljgbdejghaaDoorW.PrintLast Go.Proofs.YtfjmljgbdejghaaDoor Go.Proofs.YtfjmljgbdejghaaDoor.Pure
open Go.ChangeMaps (open_string shut_string)
set_option linter.unusedVariables false
theorem own : ownKnob Tryd.prog.godebug = none := by kernel_rfl
theorem laidOut : laidOutB Tryd.prog = true := by kernel_rfl
def ok129 (z : S129) : Prop := (Lit.int .i8 z.f0).wf = true ∧ (Lit.int .i16 z.f1).wf = true
theorem open_T4 {H : Type} {enc : TypeId × Value → H} {w : World} {base : Nat} {spare : Nat → Bool} {held : Bool} {fuel : Nat} {cs : List Value} {x : DataW H × List MemPlace} (h : DataW.trod enc Tryd.prog w base spare held fuel 4 cs = some x) :
    ∃ (a_0 : Bool), cs = (.bool a_0 :: ([] : List Value)) := by
  obtain ⟨n, rfl, _⟩ := DataW.trod_bool Tryd.underlying4 h
  exact ⟨n, rfl⟩
theorem open_T36 {H : Type} {enc : TypeId × Value → H} {w : World} {base : Nat} {spare : Nat → Bool} {held : Bool} {fuel : Nat} {cs : List Value} {x : DataW H × List MemPlace} (h : DataW.trod enc Tryd.prog w base spare held fuel 36 cs = some x) :
    ∃ (a_0 : Int), cs = (.int .i8 a_0 :: ([] : List Value)) ∧ (Lit.int .i8 a_0).wf = true := by
  obtain ⟨n, rfl, _, hw⟩ := DataW.trod_int Tryd.underlying36 h
  exact ⟨n, rfl, hw⟩
theorem open_T60 {H : Type} {enc : TypeId × Value → H} {w : World} {base : Nat} {spare : Nat → Bool} {held : Bool} {fuel : Nat} {cs : List Value} {x : DataW H × List MemPlace} (h : DataW.trod enc Tryd.prog w base spare held fuel 60 cs = some x) :
    ∃ (a_0 : Int), cs = (.int .i16 a_0 :: ([] : List Value)) ∧ (Lit.int .i16 a_0).wf = true := by
  obtain ⟨n, rfl, _, hw⟩ := DataW.trod_int Tryd.underlying60 h
  exact ⟨n, rfl, hw⟩
theorem open_T129 {H : Type} {enc : TypeId × Value → H} {w : World} {base : Nat} {spare : Nat → Bool} {held : Bool} {fuel : Nat} {cs : List Value} {x : DataW H × List MemPlace} (h : DataW.trod enc Tryd.prog w base spare held fuel 129 cs = some x) :
    ∃ (a_0 : Int) (a_1 : Int), cs = (.int .i8 a_0 :: (.int .i16 a_1 :: ([] : List Value))) ∧ (Lit.int .i8 a_0).wf = true ∧ (Lit.int .i16 a_1).wf = true := by
  obtain ⟨xs, n, _, _, hl, hlen, hf⟩ := DataW.trod_struct Tryd.underlying129 h
  have hc : Tryd.prog.cellsOf 129 = 2 := by kernel_rfl
  rw [hc] at hl
  obtain ⟨y0, hy0⟩ : ∃ y, xs[0]? = some y := ⟨_, List.getElem?_eq_getElem (by rw [hlen]; decide)⟩
  have g0 := hf 0 _ rfl
  rw [hy0] at g0
  obtain ⟨a0_0, e0, w0_0⟩ := open_T36 g0
  have d0 : Tryd.prog.cellsOf 36 = 1 := by kernel_rfl
  obtain ⟨y1, hy1⟩ : ∃ y, xs[1]? = some y := ⟨_, List.getElem?_eq_getElem (by rw [hlen]; decide)⟩
  have g1 := hf 1 _ rfl
  rw [hy1] at g1
  obtain ⟨a1_0, e1, w1_0⟩ := open_T60 g1
  have d1 : Tryd.prog.cellsOf 60 = 1 := by kernel_rfl
  refine ⟨a0_0, a1_0, ?_, w0_0, w1_0⟩
  have hs := Arr.pieces2 cs 1 1 (by omega)
  rw [hs]
  have e0' : (cs.drop 0).take 1 = (.int .i8 a0_0 :: ([] : List Value)) := (by have z : (cs.drop 0).take (Tryd.prog.cellsOf 36) = (.int .i8 a0_0 :: ([] : List Value)) := e0; rw [d0] at z; exact z)
  have e1' : (cs.drop 1).take 1 = (.int .i16 a1_0 :: ([] : List Value)) := (by have z : (cs.drop 1).take (Tryd.prog.cellsOf 60) = (.int .i16 a1_0 :: ([] : List Value)) := e1; rw [d1] at z; exact z)
  rw [e0', e1'] <;> rfl
theorem open_T35 {H : Type} {enc : TypeId × Value → H} {w : World} {base : Nat} {spare : Nat → Bool} {held : Bool} {fuel : Nat} {cs : List Value} {x : DataW H × List MemPlace} (h : DataW.trod enc Tryd.prog w base spare held fuel 35 cs = some x) :
    ∃ (A_0 : Option Addr) (n_0 : Nat) (c_0 : Nat) (l_0 : List S129), cs = (.slice A_0 n_0 c_0 :: ([] : List Value)) ∧ (l_0.length = n_0 ∧ n_0 ≤ c_0 ∧ c_0 ≤ maxLen ∧ Kd.C k129 w A_0 n_0 l_0 ∧ ∀ z ∈ l_0, ok129 z) := by
  obtain ⟨A, n, c, l, rfl, h1, h2, h3, h4, h5⟩ := Arr.trod_row k129 Tryd.underlying35 (ok := ok129) (by kernel_rfl) (fun _ _ _ hz => by obtain ⟨z0, z1, rfl, q0, q1⟩ := open_T129 hz; exact ⟨(⟨z0, z1⟩ : S129), k129_mk _ _, ⟨q0, q1⟩⟩) h
  exact ⟨A, n, c, l, rfl, h1, h2, h3, h4, h5⟩
theorem open_T37 {H : Type} {enc : TypeId × Value → H} {w : World} {base : Nat} {spare : Nat → Bool} {held : Bool} {fuel : Nat} {cs : List Value} {x : DataW H × List MemPlace} (h : DataW.trod enc Tryd.prog w base spare held fuel 37 cs = some x) :
    ∃ (a_0 : Vector Int 16), cs = Arr.arL .i8 a_0 ∧ Arr.ArrWf .i8 a_0 := by
  obtain ⟨v, rfl, hv⟩ := Arr.trod_ints Tryd.underlying37 Tryd.underlying36 (by kernel_rfl) (by kernel_rfl) h
  exact ⟨v, rfl, hv⟩
theorem open_T39 {H : Type} {enc : TypeId × Value → H} {w : World} {base : Nat} {spare : Nat → Bool} {held : Bool} {fuel : Nat} {cs : List Value} {x : DataW H × List MemPlace} (h : DataW.trod enc Tryd.prog w base spare held fuel 39 cs = some x) :
    ∃ (a_0 : Bool) (A_1 : Option Addr) (n_1 : Nat) (c_1 : Nat) (l_1 : List S129) (a_2 : Vector Int 16), cs = (.bool a_0 :: (.slice A_1 n_1 c_1 :: Arr.arL .i8 a_2)) ∧ (l_1.length = n_1 ∧ n_1 ≤ c_1 ∧ c_1 ≤ maxLen ∧ Kd.C k129 w A_1 n_1 l_1 ∧ ∀ z ∈ l_1, ok129 z) ∧ Arr.ArrWf .i8 a_2 := by
  obtain ⟨xs, n, _, _, hl, hlen, hf⟩ := DataW.trod_struct Tryd.underlying39 h
  have hc : Tryd.prog.cellsOf 39 = 18 := by kernel_rfl
  rw [hc] at hl
  obtain ⟨y0, hy0⟩ : ∃ y, xs[0]? = some y := ⟨_, List.getElem?_eq_getElem (by rw [hlen]; decide)⟩
  have g0 := hf 0 _ rfl
  rw [hy0] at g0
  obtain ⟨a0_0, e0⟩ := open_T4 g0
  have d0 : Tryd.prog.cellsOf 4 = 1 := by kernel_rfl
  obtain ⟨y1, hy1⟩ : ∃ y, xs[1]? = some y := ⟨_, List.getElem?_eq_getElem (by rw [hlen]; decide)⟩
  have g1 := hf 1 _ rfl
  rw [hy1] at g1
  obtain ⟨A1_0, n1_0, c1_0, l1_0, e1, w1_0⟩ := open_T35 g1
  have d1 : Tryd.prog.cellsOf 35 = 1 := by kernel_rfl
  obtain ⟨y2, hy2⟩ : ∃ y, xs[2]? = some y := ⟨_, List.getElem?_eq_getElem (by rw [hlen]; decide)⟩
  have g2 := hf 2 _ rfl
  rw [hy2] at g2
  obtain ⟨a2_0, e2, w2_0⟩ := open_T37 g2
  have d2 : Tryd.prog.cellsOf 37 = 16 := by kernel_rfl
  refine ⟨a0_0, A1_0, n1_0, c1_0, l1_0, a2_0, ?_, w1_0, w2_0⟩
  have hs := Arr.pieces3 cs 1 1 16 (by omega)
  rw [hs]
  have e0' : (cs.drop 0).take 1 = (.bool a0_0 :: ([] : List Value)) := (by have z : (cs.drop 0).take (Tryd.prog.cellsOf 4) = (.bool a0_0 :: ([] : List Value)) := e0; rw [d0] at z; exact z)
  have e1' : (cs.drop 1).take 1 = (.slice A1_0 n1_0 c1_0 :: ([] : List Value)) := (by have z : (cs.drop 1).take (Tryd.prog.cellsOf 35) = (.slice A1_0 n1_0 c1_0 :: ([] : List Value)) := e1; rw [d1] at z; exact z)
  have e2' : (cs.drop 2).take 16 = Arr.arL .i8 a2_0 := (by have z : (cs.drop 2).take (Tryd.prog.cellsOf 37) = Arr.arL .i8 a2_0 := e2; rw [d2] at z; exact z)
  rw [e0', e1', e2'] <;> rfl
/-- A WORLD FOR THE WITNESS: the settled one, each table holding what its initialiser lays. -/
noncomputable def laidWorld (os : Os) : World :=
  { World.holding Tryd.prog os ⟨#[], #[], []⟩ with heap := ((((World.holding Tryd.prog os ⟨#[], #[], []⟩).heap.modify 4 fun
      | .cells _ t frozen => .cells #[.int .u8 0, .int .u8 1, .int .u8 28, .int .u8 2, .int .u8 29, .int .u8 14, .int .u8 24, .int .u8 3, .int .u8 30, .int .u8 22, .int .u8 20, .int .u8 15, .int .u8 25, .int .u8 17, .int .u8 4, .int .u8 8, .int .u8 31, .int .u8 27, .int .u8 13, .int .u8 23, .int .u8 21, .int .u8 19, .int .u8 16, .int .u8 7, .int .u8 26, .int .u8 12, .int .u8 18, .int .u8 6, .int .u8 11, .int .u8 5, .int .u8 10, .int .u8 9] t frozen
      | o => o).modify 5 fun
      | .cells _ t frozen => .cells #[.int .u8 0, .int .u8 1, .int .u8 56, .int .u8 2, .int .u8 57, .int .u8 49, .int .u8 28, .int .u8 3, .int .u8 61, .int .u8 58, .int .u8 42, .int .u8 50, .int .u8 38, .int .u8 29, .int .u8 17, .int .u8 4, .int .u8 62, .int .u8 47, .int .u8 59, .int .u8 36, .int .u8 45, .int .u8 43, .int .u8 51, .int .u8 22, .int .u8 53, .int .u8 39, .int .u8 33, .int .u8 30, .int .u8 24, .int .u8 18, .int .u8 12, .int .u8 5, .int .u8 63, .int .u8 55, .int .u8 48, .int .u8 27, .int .u8 60, .int .u8 41, .int .u8 37, .int .u8 16, .int .u8 46, .int .u8 35, .int .u8 44, .int .u8 21, .int .u8 52, .int .u8 32, .int .u8 23, .int .u8 11, .int .u8 54, .int .u8 26, .int .u8 40, .int .u8 15, .int .u8 34, .int .u8 20, .int .u8 31, .int .u8 10, .int .u8 25, .int .u8 14, .int .u8 19, .int .u8 9, .int .u8 13, .int .u8 8, .int .u8 7, .int .u8 6] t frozen
      | o => o).modify 1 fun
      | .cells _ t frozen => .cells #[.int .u64 1, .int .u64 10, .int .u64 100, .int .u64 1000, .int .u64 10000, .int .u64 100000, .int .u64 1000000, .int .u64 10000000, .int .u64 100000000, .int .u64 1000000000, .int .u64 10000000000, .int .u64 100000000000, .int .u64 1000000000000, .int .u64 10000000000000, .int .u64 100000000000000, .int .u64 1000000000000000, .int .u64 10000000000000000, .int .u64 100000000000000000, .int .u64 1000000000000000000, .int .u64 10000000000000000000] t frozen
      | o => o) }
theorem laid_met (os : Os) : laidMet Tryd.prog Rows.fnExactHalfTextRow.laid ((laidWorld os).forCall (fun _ _ => 0) ⟨#[], #[.agg #[.bool false, .slice none 0 0, .int .i8 0, .int .i8 0, .int .i8 0, .int .i8 0, .int .i8 0, .int .i8 0, .int .i8 0, .int .i8 0, .int .i8 0, .int .i8 0, .int .i8 0, .int .i8 0, .int .i8 0, .int .i8 0, .int .i8 0, .int .i8 0]], []⟩).memory := laidMet_of_run' 8 (by kernel_rfl) (by kernel_rfl)
theorem reads (os : Os) {H : Type} (enc : TypeId × Value → H) : ∃ places, DataW.whole enc Tryd.prog ((laidWorld os).forCall (fun _ _ => 0) ⟨#[], #[.agg #[.bool false, .slice none 0 0, .int .i8 0, .int .i8 0, .int .i8 0, .int .i8 0, .int .i8 0, .int .i8 0, .int .i8 0, .int .i8 0, .int .i8 0, .int .i8 0, .int .i8 0, .int .i8 0, .int .i8 0, .int .i8 0, .int .i8 0, .int .i8 0]], []⟩).memory Tryd.f6.params.toList Rows.fnExactHalfTextSpec.vars false #[(.agg #[.bool false, .slice none 0 0, .int .i8 0, .int .i8 0, .int .i8 0, .int .i8 0, .int .i8 0, .int .i8 0, .int .i8 0, .int .i8 0, .int .i8 0, .int .i8 0, .int .i8 0, .int .i8 0, .int .i8 0, .int .i8 0, .int .i8 0, .int .i8 0] : Value)].toList 8 = some ([.agg [.lit (.bool false), .nil, .agg [.lit (.int .i8 0), .lit (.int .i8 0), .lit (.int .i8 0), .lit (.int .i8 0), .lit (.int .i8 0), .lit (.int .i8 0), .lit (.int .i8 0), .lit (.int .i8 0), .lit (.int .i8 0), .lit (.int .i8 0), .lit (.int .i8 0), .lit (.int .i8 0), .lit (.int .i8 0), .lit (.int .i8 0), .lit (.int .i8 0), .lit (.int .i8 0)]]], [], places) := ⟨[], by kernel_rfl⟩
theorem table {W : World} (h : laidMetH Tryd.prog Rows.fnExactHalfTextRow.laid W) : Lib.TabIs Tryd.prog W "internal/strconv.uint64pow10" .u64 Lib.pow10Tab := by
  have h1 : laidMet Tryd.prog Rows.fnExactHalfTextRow.laid W := (Go.MakeChecks.laidMetH_plain _ _ _ (by kernel_rfl)) ▸ h
  have h2 := laidMet.filter (fun x => x.1 == "internal/strconv.uint64pow10") h1
  have e : Rows.fnExactHalfTextRow.laid.filter (fun x => x.1 == "internal/strconv.uint64pow10") = [("internal/strconv.uint64pow10", Lib.tabData .u64 Lib.pow10Tab)] := by kernel_rfl
  rw [e] at h2
  exact Lib.tabIs_of_head (rest := []) (g := 1) (t := 168) (e := 134) (n := 20) (by kernel_rfl) (by kernel_rfl) Tryd.underlying168 Tryd.underlying134 (by kernel_rfl) (by kernel_rfl) h2
set_option maxRecDepth 100000 in
theorem lifted (os : Os) (started : os.Started) (H : Type) (enc : TypeId × Value → H) (F : Stop.Interp) :
    ReturnsInHanded {} Tryd.checked os 6 .any ((OpenSpec.ofChange Rows.fnExactHalfTextSpec).preRow enc Tryd.prog Tryd.f6 Rows.fnExactHalfTextRow.domain false Rows.fnExactHalfTextRow.laid) (((OpenSpec.ofChange Rows.fnExactHalfTextSpec).at F).post enc Tryd.prog Tryd.f6 false true false false) := by
  obtain ⟨places, hx⟩ := reads os enc
  refine returnsInHanded_of_row (C := Tryd.checked) (s := OpenSpec.ofChange Rows.fnExactHalfTextSpec) own started (by kernel_rfl) Tryd.func6
    (witness_row_at (enc := enc) (C := Tryd.checked) false (laidWorld os) #[.agg #[.bool false, .slice none 0 0, .int .i8 0, .int .i8 0, .int .i8 0, .int .i8 0, .int .i8 0, .int .i8 0, .int .i8 0, .int .i8 0, .int .i8 0, .int .i8 0, .int .i8 0, .int .i8 0, .int .i8 0, .int .i8 0, .int .i8 0, .int .i8 0]] rfl (by kernel_rfl) (by kernel_rfl) (by kernel_rfl) (OpenSpec.preRow_of_cond 8 hx (by kernel_rfl) (fun k hk => by cases hk) (by kernel_rfl) (laid_met os))) ?_
  intro W base args ds gs before hval0 hW _ hcond0 hsz0 hL hsh _
  have hT : Tt.TT W := Tt.TT_of (table hL) hsh
  have hsz : (DataW.weightsEach Tryd.prog (Tryd.f6.params.toList ++ Rows.fnExactHalfTextSpec.plain.varTypes Tryd.prog) (ds ++ gs)).all (· ≤ reachBytes) = true := hsz0
  have hval : ∀ (j : Nat) t v, Tryd.f6.params[j]? = some t → args[j]? = some v → Value.okWide Tryd.prog W .any base t v := hval0
  have hW' := hW
  obtain ⟨p, q, hA0, hV, rfl, hfz, hnd⟩ := hW
  have hA : DataW.TrodAll enc Tryd.prog W 0 (fun _ => true) true Tryd.f6.params.toList args.toList ds p := hA0
  rw [Tryd.params6] at hA hval hsz
  obtain ⟨v0, vs0, d0, ds0, p0, q0, hargs, rfl, rfl, h0, r0⟩ := trodAll_cons hA
  obtain ⟨rfl, rfl, rfl⟩ := trodAll_nil r0
  obtain rfl : args = #[v0] := by cases args; simp_all
  obtain ⟨rfl, rfl⟩ := trodVars_none hV
  obtain ⟨⟨cs0⟩, rfl, _⟩ := okWide_struct Tryd.underlying39 (hval 0 39 v0 rfl rfl)
  have k0 := h0
  have lt0 : ∀ x ∈ p0, x.block < W.heap.size := by obtain ⟨m, hm⟩ := k0; exact DataW.trod_lt m _ _ _ hm
  obtain ⟨m0, hm0⟩ := h0
  obtain ⟨a0_0, A0_1, n0_1, c0_1, l0_1, a0_2, e0, w0_0, w0_1⟩ := open_T39 hm0
  obtain rfl : cs0 = _ := e0
  obtain ⟨y0_1, z0_1, x0_1, u0_1, o0_1⟩ := w0_0
  subst y0_1
  clear hA0 hval0 hsz0 hsz
  obtain ⟨k, hk⟩ := Pure.FnExactHalfText a0_0 l0_1 a0_2 (Nat.le_trans z0_1 x0_1) o0_1 w0_1
  refine (laws_FnExactHalfText.calls k a0_0 A0_1 c0_1 l0_1 a0_2 true W u0_1 z0_1 hT hk rfl).mono fun e W' ⟨he, bel0⟩ => ?_
  have bel : Below W.heap.size W W' := by first | exact bel0 | exact Arr.below_of_drawn bel0
  subst he
  exact ⟨_, rfl, _, _, _, [], _, [], hW', trodAll_mk1 (shut_bool Tryd.underlying4 _), (trodAll_cons_mk (Below.trod laidOut (by kernel_rfl) (of_decide_eq_true (by kernel_rfl)) k0 bel lt0) trodAll_mk0), rfl, bel.frame _, fun h => by cases h⟩
theorem said : Rows.FnExactHalfTextSaid :=
  OpenClaim.holds_of_cond 6 Tryd.f6 rfl rfl rfl rfl rfl rfl rfl ⟨rfl, rfl, rfl, rfl, rfl⟩ rfl rfl rfl rfl rfl (by kernel_rfl) Tryd.func6 (by kernel_rfl)
    (of_decide_eq_true (by kernel_rfl)) (by unfold Func.isWrapper; first | (rw [if_pos (by decide +kernel)]; kernel_rfl) | (rw [if_neg (by decide +kernel)]; exact ⟨rfl, rfl⟩))
    (fun os started H enc _ F => by rw [OpenClaim.pre_eq_preRow]; exact lifted os started H enc F)
theorem plain (f : FuncId) (fn : Func) (hf : Tryd.pinned.checked.prog.funcNamed "loop.example/g01263/laws.FnExactHalfText" = some f) (hfn : Tryd.pinned.checked.prog.funcs[f]? = some fn) :
    false = Tryd.pinned.checked.prog.looks [] ∧ ∀ (j : Nat) t, fn.params[j]? = some t → Tryd.pinned.checked.prog.wantsStandIn t = false := by
  obtain rfl : f = 6 := Option.some.inj ((show Tryd.prog.funcNamed "loop.example/g01263/laws.FnExactHalfText" = some 6 by kernel_rfl).symm.trans hf) |>.symm
  obtain rfl : fn = Tryd.f6 := (Option.some.inj (Tryd.func6.symm.trans hfn)).symm
  refine ⟨by kernel_rfl, fun j t ht => ?_⟩
  rw [Tryd.params6] at ht
  have hm : t = 39 := by simpa using Array.mem_of_getElem? ht
  rcases hm with rfl
  · exact (show Tryd.prog.wantsStandIn 39 = false by kernel_rfl)
/-- THE CARD. -/
theorem card : Rows.FnExactHalfTextCardSaid :=
  Claim7.holds_tied_plain_at .later [] _ _ _ _ said (fun _ h => by cases h) (by kernel_rfl) (fun _ h => by cases h) fnExactHalfText_row_tie rfl ⟨rfl, rfl⟩ (by kernel_rfl) rfl plain (by kernel_rfl)
#print axioms card
end Go.Proofs.YtfjmljgbdejghaaDoor.fnExactHalfText
namespace Go.Proofs.YtfjmljgbdejghaaDoor
/-- The card, under a short name, for the claim. -/
theorem fnExactHalfText_holds : Rows.FnExactHalfTextCardSaid := fnExactHalfText.card
end Go.Proofs.YtfjmljgbdejghaaDoor
