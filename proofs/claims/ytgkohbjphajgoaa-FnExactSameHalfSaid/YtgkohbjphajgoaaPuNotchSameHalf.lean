/- Lists of notches: sizes, copies, equality and validity. -/
import Derived.Test.YtgkohbjphajgoaaMSameHalfx0
import Derived.Test.YtgkohbjphajgoaaMSameHalfx2
import Derived.Test.YtgkohbjphajgoaaMSameHalfx4
import Derived.Test.YtgkohbjphajgoaaMSameHalfx5
import Derived.Test.YtgkohbjphajgoaaEv
import Derived.Test.YtgkohbjphajgoaaPuGrainSameHalf
namespace Go.Proofs.Ytgkohbjphajgoaa.PuNotchSameHalf
open Go.RowKit Go.Proofs.Ytgkohbjphajgoaa.MSameHalf Go.Proofs.YtgkohbjphajgoaaW.PrintWords Go.Proofs.YtgkohbjphajgoaaW.PrintLast Go.Proofs.Ytgkohbjphajgoaa.Evs Go.Proofs.Ytgkohbjphajgoaa.PuGrainSameHalf
set_option linter.unusedVariables false
set_option linter.unusedSimpArgs false
abbrev T := S77
abbrev TL := S90
theorem T.ext {a b : T} (h0 : a.f0 = b.f0) (h1 : a.f1 = b.f1) : a = b := by
  cases a; cases b; simp_all
def toT (z : TL) : T := ⟨z.f0, z.f1⟩
def wfT (n : T) : Prop := (-128 ≤ n.f0 ∧ n.f0 ≤ 127) ∧ (-32768 ≤ n.f1 ∧ n.f1 ≤ 32767)
theorem wf_of {z : TL} (h : (Lit.int .i8 z.f0).wf = true ∧ (Lit.int .i16 z.f1).wf = true) : wfT (toT z) := by
  obtain ⟨h1, h2⟩ := h
  simp [Lit.wf, IntKind.min, IntKind.max, IntKind.signed, IntKind.bits] at h1 h2
  exact ⟨h1, h2⟩
theorem wf_map {l : List TL} (h : ∀ z ∈ l, (Lit.int .i8 z.f0).wf = true ∧ (Lit.int .i16 z.f1).wf = true) : ∀ n ∈ l.map toT, wfT n := by
  intro n hn
  obtain ⟨z, hz, rfl⟩ := List.mem_map.1 hn
  exact wf_of (h z hz)
theorem szN (l : List TL) (n : Int) (h0 : 0 ≤ n) (h1 : n ≤ 1048576) (h : l.length ≤ maxLen) : laws_szNotchS.f l n = some (if n - l.length < 0 then -1 else n - l.length) := by
  unfold laws_szNotchS.f
  unfold maxLen at h
  rw [wrap_id (by omega) (by omega)]
  split <;> rfl
theorem szH (s : Bool) (l : List TL) (g : G) (n : Int) (h0 : 0 ≤ n) (h1 : n ≤ 1048576) (h : l.length ≤ maxLen) : laws_szHalf.f s l g n = some (if n - l.length < 0 then -1 else n - l.length) := by
  unfold laws_szHalf.f
  rw [szN l n h0 h1 h]
  simp only [Option.bind_some]
  split
  · rfl
  · rfl
theorem rdL (l : List TL) (i : Nat) (h : i < l.length) : rd_T90 l (i : Int) = l[i] := getD_lt l _ i h
theorem rdT (l : List T) (i : Nat) (h : i < l.length) : rd_T77 l (i : Int) = l[i] := getD_lt l _ i h
theorem toN_ev (l : List TL) (h : l.length ≤ 1048576) : Ev (fun k => laws_toNotchS.f k l) (l.map toT) := by
  unfold laws_toNotchS.f
  refine ev_pos (by omega) (ev_pos (by simpa using by omega) ?_)
  have key2 : ∀ i : Nat, i ≤ l.length → Ev (fun k => laws_toNotchS.l0 k l ((l.take i).map toT ++ List.replicate (l.length - i) z77) (i : Int)) (l.map toT) := by
    intro i hi
    obtain ⟨d, hd⟩ : ∃ d, l.length - i = d := ⟨_, rfl⟩
    induction d generalizing i with
    | zero =>
      have : i = l.length := by omega
      subst this
      refine Ev.step (f := fun _ => some (l.map toT)) (fun k => ?_) (Ev.now _)
      simp only [laws_toNotchS.l0]
      rw [if_neg (by omega)]
      simp
    | succ d ih =>
      have hlt : i < l.length := by omega
      have h2 := ih (i + 1) (by omega) (by omega)
      refine Ev.step (fun k => ?_) h2
      simp only [laws_toNotchS.l0]
      rw [if_pos (by omega), if_pos (by omega), rdL l i hlt]
      simp only [laws_toNotch.f, Option.bind_some]
      rw [if_pos (by simp; omega), wrap_up hlt (by omega)]
      rw [show ((i : Int)).toNat = i from Int.toNat_natCast i]
      have hs := set_front toT l z77 i hlt
      rw [show (⟨l[i].f0, l[i].f1⟩ : T) = toT l[i] from rfl, hs]
      rfl
  simpa using key2 0 (by omega)
theorem eqN_refl (a : List T) (h : a.length ≤ maxLen) : Ev (fun k => laws_eqNotchS.f k a a) true := by
  unfold laws_eqNotchS.f
  unfold maxLen at h
  refine ev_pos rfl ?_
  have key : ∀ i : Nat, i ≤ a.length → ∀ _ : Unit, Ev (fun k => laws_eqNotchS.l0 k a a (i : Int)) true :=
    fun i hi => ev_for (n := a.length) (G := fun k (_ : Unit) i => laws_eqNotchS.l0 k a a i) (F := fun _ _ => true) (fun i hi ih _ => by
      refine Ev.step (fun k => ?_) (ih ())
      simp only [laws_eqNotchS.l0]
      rw [if_pos (by omega), if_pos (by omega), if_pos (by omega), wrap_up hi (by omega)]
      simp [laws_eqNotch.f]) (fun _ => by
      refine Ev.step (f := fun _ => some true) (fun k => ?_) (Ev.now _)
      simp only [laws_eqNotchS.l0]
      rw [if_neg (by omega)]) i hi
  exact key 0 (by omega) ()
theorem toH_ev (s : Bool) (l : List TL) (g : G) (h : l.length ≤ 1048576) : Ev (fun k => laws_toHalf.f k s l g) (s, l.map toT, g) := by
  unfold laws_toHalf.f
  exact Ev.bind (toN_ev l h) (Ev.bind (toGrain_ev g) (Ev.now _))
theorem eqH_refl (s : Bool) (l : List T) (g : G) (h : l.length ≤ maxLen) : Ev (fun k => laws_eqHalf.f k s l g s l g) true := by
  unfold laws_eqHalf.f
  refine ev_neg (by simp) (Ev.bind (eqN_refl l h) (ev_pos rfl (Ev.bind (eqGrain_refl g) (ev_pos rfl (Ev.now _)))))

/-! validity -/
def wd (k : Int) : Int := ([1, 2, 4, 6, 9, 12] : List Int).getD k.toNat 0
theorem wd_bd (k : Int) : 0 ≤ wd k ∧ wd k ≤ 12 := by
  unfold wd
  generalize k.toNat = m
  match m with
  | 0 => decide
  | 1 => decide
  | 2 => decide
  | 3 => decide
  | 4 => decide
  | 5 => decide
  | m + 6 => simp
theorem wd_pos (k : Int) (h0 : 0 ≤ k) (h1 : k ≤ 5) : 1 ≤ wd k := by
  unfold wd
  have : k.toNat ≤ 5 := by omega
  generalize k.toNat = m at this
  match m, this with
  | 0, _ => decide
  | 1, _ => decide
  | 2, _ => decide
  | 3, _ => decide
  | 4, _ => decide
  | 5, _ => decide
  | m + 6, h => omega
def en (n : T) : Int := n.f1 + wd n.f0
def kd (k : Int) : Bool := decide (0 ≤ k ∧ k ≤ 5)
def ok1 (n : T) : Bool := decide (0 ≤ n.f0 ∧ n.f0 ≤ 5 ∧ 0 ≤ n.f1 ∧ en n ≤ 200)
def ok2 (p n : T) : Bool := decide (n.f0 ≤ p.f0 ∧ en p < n.f1)
def okP (p : Option T) (n : T) : Bool := match p with | none => true | some p => ok2 p n
def chain : Option T → List T → Bool
  | _, [] => true
  | p, n :: l => ok1 n && okP p n && chain (some n) l
def prev (l : List T) (i : Nat) : Option T := if i = 0 then none else l[i - 1]?
theorem prev_zero (l : List T) : prev l 0 = none := rfl
theorem prev_succ (l : List T) (i : Nat) (h : i < l.length) : prev l (i + 1) = some l[i] := by
  unfold prev
  rw [if_neg (by omega), Nat.add_sub_cancel, List.getElem?_eq_getElem h]
theorem prev_pos (l : List T) (i : Nat) (h0 : 0 < i) (h : i < l.length) : prev l i = some (l[i - 1]'(by omega)) := by
  unfold prev
  rw [if_neg (by omega), List.getElem?_eq_getElem (by omega)]
theorem chain_step (l : List T) (i : Nat) (h : i < l.length) : chain (prev l i) (l.drop i) = (ok1 l[i] && okP (prev l i) l[i] && chain (prev l (i + 1)) (l.drop (i + 1))) := by
  rw [List.drop_eq_getElem_cons h, prev_succ l i h]; rfl
def validN (l : List T) : Bool := decide (l.length ≤ 60) && chain none l
def validH (l : List T) (g : G) : Bool := validN l && okG g
theorem wrap_i8 {n : T} (h : wfT n) : wrap64 n.f0 = n.f0 := wrap_id (by have := h.1.1; omega) (by have := h.1.2; omega)
theorem wrap_i16 {n : T} (h : wfT n) : wrap64 n.f1 = n.f1 := wrap_id (by have := h.2.1; omega) (by have := h.2.2; omega)
theorem ok1_kd {n : T} (h : ok1 n = true) : kd n.f0 = true := by
  have := of_decide_eq_true h
  exact decide_eq_true ⟨this.1, this.2.1⟩
theorem chain_ok1 : ∀ (p : Option T) (l : List T), chain p l = true → ∀ n ∈ l, ok1 n = true
  | _, [], _, n, hn => by simp at hn
  | p, a :: l, h, n, hn => by
    simp only [chain, Bool.and_eq_true] at h
    rcases List.mem_cons.1 hn with rfl | hn
    · exact h.1.1
    · exact chain_ok1 _ l h.2 n hn
theorem valid_ok1 {l : List T} (h : validN l = true) : ∀ n ∈ l, ok1 n = true := by
  simp only [validN, Bool.and_eq_true] at h
  exact chain_ok1 none l h.2
theorem valid_len {l : List T} (h : validN l = true) : l.length ≤ 60 := by
  simp only [validN, Bool.and_eq_true, decide_eq_true_eq] at h
  exact h.1
theorem validH_N {l : List T} {g : G} (h : validH l g = true) : validN l = true := by
  simp only [validH, Bool.and_eq_true] at h
  exact h.1
end Go.Proofs.Ytgkohbjphajgoaa.PuNotchSameHalf
