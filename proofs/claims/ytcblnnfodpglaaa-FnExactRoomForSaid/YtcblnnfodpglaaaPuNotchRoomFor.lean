/- Lists of notches: sizes, copies, equality and validity. -/
import Derived.Test.YtcblnnfodpglaaaMRoomForx0
import Derived.Test.YtcblnnfodpglaaaMRoomForx1
import Derived.Test.YtcblnnfodpglaaaMRoomForx2
import Derived.Test.YtcblnnfodpglaaaMRoomForx3
import Derived.Test.YtcblnnfodpglaaaMRoomForx4
import Derived.Test.YtcblnnfodpglaaaMRoomForx5
import Derived.Test.YtcblnnfodpglaaaVRoomForEv
import Derived.Test.YtcblnnfodpglaaaPuGrainRoomFor
namespace Go.Proofs.Ytcblnnfodpglaaa.PuNotchRoomFor
open Go.RowKit Go.Proofs.Ytcblnnfodpglaaa.MRoomFor Go.Proofs.YtcblnnfodpglaaaW.PrintWords Go.Proofs.YtcblnnfodpglaaaW.PrintLast Go.Proofs.Ytcblnnfodpglaaa.Evs Go.Proofs.Ytcblnnfodpglaaa.PuGrainRoomFor
set_option linter.unusedVariables false
set_option linter.unusedSimpArgs false
abbrev T := S71
abbrev TL := S107
theorem T.ext {a b : T} (h0 : a.f0 = b.f0) (h1 : a.f1 = b.f1) : a = b := by
  cases a; cases b; simp_all
def toT (z : TL) : T := ⟨z.f0, z.f1⟩
def wfT (n : T) : Prop := (-128 ≤ n.f0 ∧ n.f0 ≤ 127) ∧ (-32768 ≤ n.f1 ∧ n.f1 ≤ 32767)
theorem wf_of {z : TL} (h : (Lit.int .i8 z.f0).wf = true ∧ (Lit.int .i16 z.f1).wf = true) : wfT (toT z) := by
  obtain ⟨h1, h2⟩ := h
  simp [Lit.wf, IntKind.min, IntKind.max, IntKind.signed, IntKind.bits] at h1 h2
  exact ⟨h1, h2⟩
theorem wf_map {l : List TL} (h : ∀ z ∈ l, (Lit.int .i8 z.f0).wf = true ∧ (Lit.int .i16 z.f1).wf = true) : ∀ n ∈ l.map toT, wfT n := by
  intro n hn
  obtain ⟨z, hz, rfl⟩ := List.mem_map.1 hn
  exact wf_of (h z hz)
theorem szN (l : List TL) (n : Int) (h0 : 0 ≤ n) (h1 : n ≤ 1048576) (h : l.length ≤ maxLen) : laws_szNotchS.f l n = some (if n - l.length < 0 then -1 else n - l.length) := by
  unfold laws_szNotchS.f
  unfold maxLen at h
  rw [wrap_id (by omega) (by omega)]
  split <;> rfl
theorem szH (s : Bool) (l : List TL) (g : G) (n : Int) (h0 : 0 ≤ n) (h1 : n ≤ 1048576) (h : l.length ≤ maxLen) : laws_szHalf.f s l g n = some (if n - l.length < 0 then -1 else n - l.length) := by
  unfold laws_szHalf.f
  rw [szN l n h0 h1 h]
  simp only [Option.bind_some]
  split
  · rfl
  · rfl
theorem rdL (l : List TL) (i : Nat) (h : i < l.length) : rd_T107 l (i : Int) = l[i] := getD_lt l _ i h
theorem rdT (l : List T) (i : Nat) (h : i < l.length) : rd_T71 l (i : Int) = l[i] := getD_lt l _ i h
theorem toN_ev (l : List TL) (h : l.length ≤ 1048576) : Ev (fun k => laws_toNotchS.f k l) (l.map toT) := by
  unfold laws_toNotchS.f
  refine ev_pos (by omega) (ev_pos (by simpa using by omega) ?_)
  have key2 : ∀ i : Nat, i ≤ l.length → Ev (fun k => laws_toNotchS.l0 k l ((l.take i).map toT ++ List.replicate (l.length - i) z71) (i : Int)) (l.map toT) := by
    intro i hi
    obtain ⟨d, hd⟩ : ∃ d, l.length - i = d := ⟨_, rfl⟩
    induction d generalizing i with
    | zero =>
      have : i = l.length := by omega
      subst this
      refine Ev.step (f := fun _ => some (l.map toT)) (fun k => ?_) (Ev.now _)
      simp only [laws_toNotchS.l0]
      rw [if_neg (by omega)]
      simp
    | succ d ih =>
      have hlt : i < l.length := by omega
      have h2 := ih (i + 1) (by omega) (by omega)
      refine Ev.step (fun k => ?_) h2
      simp only [laws_toNotchS.l0]
      rw [if_pos (by omega), if_pos (by omega), rdL l i hlt]
      simp only [laws_toNotch.f, Option.bind_some]
      rw [if_pos (by simp; omega), wrap_up hlt (by omega)]
      rw [show ((i : Int)).toNat = i from Int.toNat_natCast i]
      have hs := set_front toT l z71 i hlt
      rw [show (⟨l[i].f0, l[i].f1⟩ : T) = toT l[i] from rfl, hs]
      rfl
  simpa using key2 0 (by omega)
theorem eqN_refl (a : List T) (h : a.length ≤ maxLen) : Ev (fun k => laws_eqNotchS.f k a a) true := by
  unfold laws_eqNotchS.f
  unfold maxLen at h
  refine ev_pos rfl ?_
  have key : ∀ i : Nat, i ≤ a.length → ∀ _ : Unit, Ev (fun k => laws_eqNotchS.l0 k a a (i : Int)) true :=
    fun i hi => ev_for (n := a.length) (G := fun k (_ : Unit) i => laws_eqNotchS.l0 k a a i) (F := fun _ _ => true) (fun i hi ih _ => by
      refine Ev.step (fun k => ?_) (ih ())
      simp only [laws_eqNotchS.l0]
      rw [if_pos (by omega), if_pos (by omega), if_pos (by omega), wrap_up hi (by omega)]
      simp [laws_eqNotch.f]) (fun _ => by
      refine Ev.step (f := fun _ => some true) (fun k => ?_) (Ev.now _)
      simp only [laws_eqNotchS.l0]
      rw [if_neg (by omega)]) i hi
  exact key 0 (by omega) ()
theorem toH_ev (s : Bool) (l : List TL) (g : G) (h : l.length ≤ 1048576) : Ev (fun k => laws_toHalf.f k s l g) (s, l.map toT, g) := by
  unfold laws_toHalf.f
  exact Ev.bind (toN_ev l h) (Ev.bind (toGrain_ev g) (Ev.now _))
theorem eqH_refl (s : Bool) (l : List T) (g : G) (h : l.length ≤ maxLen) : Ev (fun k => laws_eqHalf.f k s l g s l g) true := by
  unfold laws_eqHalf.f
  refine ev_neg (by simp) (Ev.bind (eqN_refl l h) (ev_pos rfl (Ev.bind (eqGrain_refl g) (ev_pos rfl (Ev.now _)))))

/-! validity -/
def wd (k : Int) : Int := ([1, 2, 4, 6, 9, 12] : List Int).getD k.toNat 0
theorem wd_bd (k : Int) : 0 ≤ wd k ∧ wd k ≤ 12 := by
  unfold wd
  generalize k.toNat = m
  match m with
  | 0 => decide
  | 1 => decide
  | 2 => decide
  | 3 => decide
  | 4 => decide
  | 5 => decide
  | m + 6 => simp
theorem wd_pos (k : Int) (h0 : 0 ≤ k) (h1 : k ≤ 5) : 1 ≤ wd k := by
  unfold wd
  have : k.toNat ≤ 5 := by omega
  generalize k.toNat = m at this
  match m, this with
  | 0, _ => decide
  | 1, _ => decide
  | 2, _ => decide
  | 3, _ => decide
  | 4, _ => decide
  | 5, _ => decide
  | m + 6, h => omega
def en (n : T) : Int := n.f1 + wd n.f0
def kd (k : Int) : Bool := decide (0 ≤ k ∧ k ≤ 5)
def ok1 (n : T) : Bool := decide (0 ≤ n.f0 ∧ n.f0 ≤ 5 ∧ 0 ≤ n.f1 ∧ en n ≤ 200)
def ok2 (p n : T) : Bool := decide (n.f0 ≤ p.f0 ∧ en p < n.f1)
def okP (p : Option T) (n : T) : Bool := match p with | none => true | some p => ok2 p n
def chain : Option T → List T → Bool
  | _, [] => true
  | p, n :: l => ok1 n && okP p n && chain (some n) l
def prev (l : List T) (i : Nat) : Option T := if i = 0 then none else l[i - 1]?
theorem prev_zero (l : List T) : prev l 0 = none := rfl
theorem prev_succ (l : List T) (i : Nat) (h : i < l.length) : prev l (i + 1) = some l[i] := by
  unfold prev
  rw [if_neg (by omega), Nat.add_sub_cancel, List.getElem?_eq_getElem h]
theorem prev_pos (l : List T) (i : Nat) (h0 : 0 < i) (h : i < l.length) : prev l i = some (l[i - 1]'(by omega)) := by
  unfold prev
  rw [if_neg (by omega), List.getElem?_eq_getElem (by omega)]
theorem chain_step (l : List T) (i : Nat) (h : i < l.length) : chain (prev l i) (l.drop i) = (ok1 l[i] && okP (prev l i) l[i] && chain (prev l (i + 1)) (l.drop (i + 1))) := by
  rw [List.drop_eq_getElem_cons h, prev_succ l i h]; rfl
def validN (l : List T) : Bool := decide (l.length ≤ 60) && chain none l
def validH (l : List T) (g : G) : Bool := validN l && okG g
theorem wrap_i8 {n : T} (h : wfT n) : wrap64 n.f0 = n.f0 := wrap_id (by have := h.1.1; omega) (by have := h.1.2; omega)
theorem wrap_i16 {n : T} (h : wfT n) : wrap64 n.f1 = n.f1 := wrap_id (by have := h.2.1; omega) (by have := h.2.2; omega)
theorem l00In_f (a b c : Int) : spec_l00In.f a b c = some (decide (b ≤ a ∧ a ≤ c)) := by
  unfold spec_l00In.f
  by_cases h : a ≥ b
  · rw [if_pos h]; congr 1; simp [show b ≤ a from h]
  · rw [if_neg h]; congr 1; simp [show ¬ b ≤ a from h]
theorem kindS (k : Int) : spec_l01Kind.f k = some (kd k) := by
  unfold spec_l01Kind.f
  rw [l00In_f]; rfl
theorem kindI (k : Int) : impl_isKind.f k = some (kd k) := by
  unfold impl_isKind.f kd
  by_cases h : k ≥ 0
  · rw [if_pos h]; congr 1; simp [show 0 ≤ k from h]
  · rw [if_neg h]; congr 1; simp [show ¬ 0 ≤ k from h]
theorem widthI {k : Int} (h : kd k = true) : impl_width.f k = some (wd k) := by
  have h := of_decide_eq_true h
  unfold impl_width.f
  simp only [Option.bind_some]
  rw [if_pos h.1, if_pos (by simp; omega)]; rfl
theorem endI {n : T} (hw : wfT n) (h : kd n.f0 = true) : impl_Notch_end.f n.f0 n.f1 = some (en n) := by
  unfold impl_Notch_end.f
  have := wd_bd n.f0
  have := hw.2
  rw [wrap_i8 hw, wrap_i16 hw, widthI h]
  simp only [Option.bind_some]
  rw [wrap_id (by omega) (by omega)]; rfl
theorem endS {n : T} (hw : wfT n) (h : kd n.f0 = true) : spec_l01Ends.f n.f0 n.f1 = some (en n) := by
  unfold spec_l01Ends.f spec_l01Widths.f
  have := wd_bd n.f0
  have := hw.2
  have hk := of_decide_eq_true h
  simp only [Option.bind_some]
  rw [if_pos hk.1, if_pos (by simp; omega), wrap_i16 hw, show rd [1, 2, 4, 6, 9, 12] n.f0 = wd n.f0 from rfl, wrap_id (by omega) (by omega)]; rfl
theorem ok1_kd {n : T} (h : ok1 n = true) : kd n.f0 = true := by
  have := of_decide_eq_true h
  exact decide_eq_true ⟨this.1, this.2.1⟩
theorem notchesS_ev (l : List T) (hl : l.length ≤ maxLen) (hw : ∀ n ∈ l, wfT n) : Ev (fun k => spec_l01Notches.f k l) (validN l) := by
  unfold spec_l01Notches.f validN
  by_cases h60 : l.length ≤ 60
  · refine ev_neg (by omega) ?_
    rw [decide_eq_true h60, Bool.true_and]
    refine ev_forI (n := l.length) (G := fun k (_ : Unit) i => spec_l01Notches.l0 k l i) (F := fun _ i => chain (prev l i) (l.drop i)) (I := fun _ i => ∀ q : Nat, q + 1 = i → ∀ hq : q < l.length, ok1 l[q] = true) (fun i hi ih s hI => ?_) (fun s hI => ?_) 0 (by omega) () (fun q hq => by omega)
    · rw [chain_step l i hi]
      have hwi := hw l[i] (List.getElem_mem hi)
      have j1 : ok1 l[i] = true → Ev (fun k => spec_l01Notches.j1 k l (i : Int) false l[i].f0 l[i].f1) (okP (prev l i) l[i] && chain (prev l (i + 1)) (l.drop (i + 1))) := by
        intro h1
        have nx := ih () (fun q hq hq2 => by obtain rfl : q = i := by omega
                                             exact h1)
        by_cases h0 : i = 0
        · subst h0
          refine Ev.step (fun k => ?_) nx
          simp only [spec_l01Notches.j1]
          rw [if_neg (by simp), if_neg (by omega), wrap_up hi (by omega)]
        · have hp := hw (l[i - 1]'(by omega)) (List.getElem_mem _)
          have hk := ok1_kd (hI (i - 1) (by omega) (by omega))
          rw [prev_pos l i (by omega) hi]
          have e1 : wrap64 ((i : Int) - 1) = ((i - 1 : Nat) : Int) := by rw [wrap_id (by omega) (by omega)]; omega
          have hs : ∀ k, spec_l01Notches.j1 (k + 1) l (i : Int) false l[i].f0 l[i].f1 = if ok2 (l[i - 1]'(by omega)) l[i] = true then spec_l01Notches.l0 k l ((i : Int) + 1) else some false := by
            intro k
            simp only [spec_l01Notches.j1]
            rw [if_neg (by simp), if_pos (by omega), e1, if_pos (by omega), if_pos (by omega), rdT l (i - 1) (by omega), endS hp hk, wrap_i16 hwi, wrap_up hi (by omega)]
            simp only [Option.bind_some, ok2, decide_eq_true_eq]
            by_cases z1 : l[i].f0 > (l[i - 1]'(by omega)).f0
            · rw [if_pos z1, if_neg (by omega)]
            · rw [if_neg z1]
              by_cases z2 : l[i].f1 ≤ en (l[i - 1]'(by omega))
              · rw [if_pos z2, if_neg (by omega)]
              · rw [if_neg z2, if_pos (by omega)]
          refine Ev.step hs ?_
          by_cases z : ok2 (l[i - 1]'(by omega)) l[i] = true
          · refine ev_pos z (ev_eq nx ?_)
            simp [okP, z]
          · refine ev_neg z (ev_eq (Ev.now false) ?_)
            simp [okP, z]
      have jf : Ev (fun k => spec_l01Notches.j1 k l (i : Int) true l[i].f0 l[i].f1) false :=
        Ev.step (f := fun _ => some false) (fun k => by simp only [spec_l01Notches.j1]; rfl) (Ev.now _)
      have hs : ∀ k, spec_l01Notches.l0 (k + 1) l (i : Int) = spec_l01Notches.j1 k l (i : Int) (!ok1 l[i]) l[i].f0 l[i].f1 := by
        intro k
        simp only [spec_l01Notches.l0]
        rw [if_pos (by omega), if_pos (by omega), rdT l i hi, wrap_i8 hwi, kindS]
        simp only [Option.bind_some]
        by_cases hk : kd l[i].f0 = true
        · rw [if_pos hk]
          have hk' := of_decide_eq_true hk
          by_cases h1 : l[i].f1 < 0
          · rw [if_pos h1, show ok1 l[i] = false from decide_eq_false (by omega)]; rfl
          · rw [if_neg h1, endS hwi hk]
            simp only [Option.bind_some]
            congr 1
            by_cases h2 : en l[i] > 200
            · rw [show ok1 l[i] = false from decide_eq_false (by omega)]; simp [h2]
            · rw [show ok1 l[i] = true from decide_eq_true (by omega)]; simp [h2]
        · rw [if_neg hk]
          have hk' := of_decide_eq_false (Bool.eq_false_iff.mpr hk)
          rw [show ok1 l[i] = false from decide_eq_false (by omega)]; rfl
      refine Ev.step hs ?_
      cases ho : ok1 l[i] with
      | true => exact ev_eq (j1 ho) (by simp)
      | false => exact ev_eq jf (by simp)
    · refine ev_eq (Ev.step (f := fun _ => some true) (fun k => ?_) (Ev.now _)) ?_
      · simp only [spec_l01Notches.l0]
        rw [if_neg (by omega)]
      · rw [List.drop_length]; rfl
  · refine ev_pos (by omega) (ev_eq (Ev.now false) ?_)
    simp [h60]
theorem okS_ev (s : Bool) (l : List T) (g : G) (hl : l.length ≤ maxLen) (hw : ∀ n ∈ l, wfT n) : Ev (fun k => spec_l01Ok.f k s l g) (validH l g) := by
  unfold spec_l01Ok.f validH
  refine Ev.bind (notchesS_ev l hl hw) ?_
  by_cases h : validN l = true
  · rw [h]
    exact ev_pos rfl (Ev.bind (l01Grain_ev g) (Ev.now _))
  · refine ev_neg h (ev_eq (Ev.now false) ?_)
    simp [h]
theorem ValidHalfI_ev (s : Bool) (l : List T) (g : G) (hl : l.length ≤ maxLen) (hw : ∀ n ∈ l, wfT n) : Ev (fun k => impl_ValidHalf.f k s l g) (validH l g) := by
  unfold impl_ValidHalf.f validH validN
  have jt : Ev (fun k => impl_ValidHalf.j0 k true s l g) false :=
    Ev.step (f := fun _ => some false) (fun k => by simp only [impl_ValidHalf.j0]; rfl) (Ev.now _)
  by_cases h60 : l.length ≤ 60
  · refine ev_neg (by omega) ?_
    rw [decide_eq_true h60, Bool.true_and]
    refine Ev.bind (ValidGrainI_ev g) ?_
    cases hg : okG g with
    | false => exact ev_eq jt (by simp)
    | true =>
    rw [Bool.and_true]
    refine Ev.step (f := fun k => impl_ValidHalf.l0 k l (l.length : Int) 0 s l g) (fun k => by simp only [impl_ValidHalf.j0]; rfl) ?_
    refine ev_forI (n := l.length) (G := fun k (_ : Unit) i => impl_ValidHalf.l0 k l (l.length : Int) i s l g) (F := fun _ i => chain (prev l i) (l.drop i)) (I := fun _ i => ∀ q : Nat, q + 1 = i → ∀ hq : q < l.length, ok1 l[q] = true) (fun i hi ih u hI => ?_) (fun u hI => ?_) 0 (by omega) () (fun q hq => by omega)
    · rw [chain_step l i hi]
      have hwi := hw l[i] (List.getElem_mem hi)
      have j1 : ok1 l[i] = true → Ev (fun k => impl_ValidHalf.j2 k (i : Int) l (l.length : Int) (i : Int) false s l g l[i].f0 l[i].f1) (okP (prev l i) l[i] && chain (prev l (i + 1)) (l.drop (i + 1))) := by
        intro h1
        have nx := ih () (fun q hq hq2 => by obtain rfl : q = i := by omega
                                             exact h1)
        by_cases h0 : i = 0
        · subst h0
          refine Ev.step (fun k => ?_) nx
          simp only [impl_ValidHalf.j2]
          rw [if_neg (by simp), if_neg (by omega), wrap_up hi (by omega)]
        · have hp := hw (l[i - 1]'(by omega)) (List.getElem_mem _)
          have hk := ok1_kd (hI (i - 1) (by omega) (by omega))
          rw [prev_pos l i (by omega) hi]
          have e1 : wrap64 ((i : Int) - 1) = ((i - 1 : Nat) : Int) := by rw [wrap_id (by omega) (by omega)]; omega
          have hs : ∀ k, impl_ValidHalf.j2 (k + 1) (i : Int) l (l.length : Int) (i : Int) false s l g l[i].f0 l[i].f1 = if ok2 (l[i - 1]'(by omega)) l[i] = true then impl_ValidHalf.l0 k l (l.length : Int) ((i : Int) + 1) s l g else some false := by
            intro k
            simp only [impl_ValidHalf.j2]
            rw [if_neg (by simp), if_pos (by omega), e1, if_pos (by omega), if_pos (by omega), rdT l (i - 1) (by omega), endI hp hk, wrap_i16 hwi, wrap_up hi (by omega)]
            simp only [Option.bind_some, ok2, decide_eq_true_eq]
            by_cases z2 : l[i].f1 ≤ en (l[i - 1]'(by omega))
            · rw [if_pos z2, if_neg (by omega)]
            · rw [if_neg z2]
              by_cases z1 : l[i].f0 > (l[i - 1]'(by omega)).f0
              · rw [if_pos z1, if_neg (by omega)]
              · rw [if_neg z1, if_pos (by omega)]
          refine Ev.step hs ?_
          by_cases z : ok2 (l[i - 1]'(by omega)) l[i] = true
          · refine ev_pos z (ev_eq nx ?_)
            simp [okP, z]
          · refine ev_neg z (ev_eq (Ev.now false) ?_)
            simp [okP, z]
      have jf : Ev (fun k => impl_ValidHalf.j2 k (i : Int) l (l.length : Int) (i : Int) true s l g l[i].f0 l[i].f1) false :=
        Ev.step (f := fun _ => some false) (fun k => by simp only [impl_ValidHalf.j2]; rfl) (Ev.now _)
      have hs : ∀ k, impl_ValidHalf.l0 (k + 1) l (l.length : Int) (i : Int) s l g = impl_ValidHalf.j2 k (i : Int) l (l.length : Int) (i : Int) (!ok1 l[i]) s l g l[i].f0 l[i].f1 := by
        intro k
        simp only [impl_ValidHalf.l0]
        rw [if_pos (by omega), if_pos (by omega), if_pos (by omega), rdT l i hi, wrap_i8 hwi, kindI]
        simp only [Option.bind_some]
        by_cases hk : kd l[i].f0 = true
        · rw [if_pos hk]
          have hk' := of_decide_eq_true hk
          by_cases h1 : l[i].f1 < 0
          · rw [if_pos h1, show ok1 l[i] = false from decide_eq_false (by omega)]; rfl
          · rw [if_neg h1, endI hwi hk]
            simp only [Option.bind_some]
            congr 1
            by_cases h2 : en l[i] > 200
            · rw [show ok1 l[i] = false from decide_eq_false (by omega)]; simp [h2]
            · rw [show ok1 l[i] = true from decide_eq_true (by omega)]; simp [h2]
        · rw [if_neg hk]
          have hk' := of_decide_eq_false (Bool.eq_false_iff.mpr hk)
          rw [show ok1 l[i] = false from decide_eq_false (by omega)]; rfl
      refine Ev.step hs ?_
      cases ho : ok1 l[i] with
      | true => exact ev_eq (j1 ho) (by simp)
      | false => exact ev_eq jf (by simp)
    · refine ev_eq (Ev.step (f := fun _ => some true) (fun k => ?_) (Ev.now _)) ?_
      · simp only [impl_ValidHalf.l0]
        rw [if_neg (by omega)]
      · rw [List.drop_length]; rfl
  · refine ev_pos (by omega) (ev_eq jt ?_)
    simp [h60]
theorem chain_ok1 : ∀ (p : Option T) (l : List T), chain p l = true → ∀ n ∈ l, ok1 n = true
  | _, [], _, n, hn => by simp at hn
  | p, a :: l, h, n, hn => by
    simp only [chain, Bool.and_eq_true] at h
    rcases List.mem_cons.1 hn with rfl | hn
    · exact h.1.1
    · exact chain_ok1 _ l h.2 n hn
theorem valid_ok1 {l : List T} (h : validN l = true) : ∀ n ∈ l, ok1 n = true := by
  simp only [validN, Bool.and_eq_true] at h
  exact chain_ok1 none l h.2
theorem valid_len {l : List T} (h : validN l = true) : l.length ≤ 60 := by
  simp only [validN, Bool.and_eq_true, decide_eq_true_eq] at h
  exact h.1
theorem validH_N {l : List T} {g : G} (h : validH l g = true) : validN l = true := by
  simp only [validH, Bool.and_eq_true] at h
  exact h.1
end Go.Proofs.Ytcblnnfodpglaaa.PuNotchRoomFor
