/- Words for this claim: arrays of whole numbers as vectors, and arguments laid open. General: no program in sight. -/
import Derived.Test.YtcghnnhhgngddaaDoorWMore
import Derived.Test.YtcghnnhhgngddaaDoorWWords
import Derived.Deep.Slices
import Derived.OpenShut
import Derived.ChangeArms
import Derived.WideShapes
import Derived.Below
import Derived.Deep.MidRow
import Derived.Laws.Rows
import Derived.Lib.SliceRun
namespace Go.Proofs.YtcghnnhhgngddaaDoor.Arr
open Go.RowKit Go.WideShapes Go.Proofs.YtcghnnhhgngddaaDoorW.PrintWords
set_option linter.unusedVariables false
set_option linter.unusedSimpArgs false

def arL (k : IntKind) {n : Nat} (v : Vector Int n) : List Value := v.toList.map (Value.int k)
def ArrWf (k : IntKind) {n : Nat} (v : Vector Int n) : Prop := ∀ i : Nat, i < n → (Lit.int k (v.toList.getD i 0)).wf = true

theorem arL_length (k : IntKind) {n : Nat} (v : Vector Int n) : (arL k v).length = n := by simp [arL]

theorem ints_of_cells (k : IntKind) : ∀ (cs : List Value), (∀ i, i < cs.length → ∃ z, cs[i]? = some (.int k z) ∧ (Lit.int k z).wf = true) → ∃ l : List Int, cs = l.map (Value.int k) ∧ ∀ z ∈ l, (Lit.int k z).wf = true
  | [], _ => ⟨[], rfl, by simp⟩
  | c :: cs, h => by
    obtain ⟨z, hz, hw⟩ := h 0 (by simp)
    obtain ⟨l, rfl, hl⟩ := ints_of_cells k cs (fun i hi => by simpa using h (i + 1) (by simpa using hi))
    simp at hz
    subst hz
    exact ⟨z :: l, rfl, by simpa using ⟨hw, hl⟩⟩

section
variable {H : Type} {enc : TypeId × Value → H} {P : Program} {w : World} {base : Nat} {spare : Nat → Bool} {held : Bool} {fuel : Nat} {t : TypeId} {cs : List Value} {x : DataW H × List MemPlace}

theorem trod_ints {k : IntKind} {n : Nat} {e : TypeId} (ht : P.underlying t = some (.array n e)) (he : P.underlying e = some (.int k)) (h1 : P.cellsOf e = 1) (hN : P.cellsOf t = n) (h : DataW.trod enc P w base spare held fuel t cs = some x) :
    ∃ v : Vector Int n, cs = arL k v ∧ ArrWf k v := by
  obtain ⟨xs, m, _, _, hl, hlen, hf⟩ := DataW.trod_array ht h
  rw [hN] at hl
  obtain ⟨l, rfl, hw⟩ := ints_of_cells k cs (fun i hi => by
    have g := hf i (by omega)
    rw [h1, Nat.mul_one, List.getElem?_eq_getElem (by omega)] at g
    obtain ⟨z, hz, _, hw⟩ := DataW.trod_int he g
    refine ⟨z, ?_, hw⟩
    have := congrArg (fun q : List Value => q[0]?) hz
    simpa using this)
  have hl' : l.length = n := by simpa using hl
  refine ⟨⟨l.toArray, by simpa using hl'⟩, ?_, ?_⟩
  · simp [arL, Vector.toList]
  · intro i hi
    simp only [Vector.toList]
    rw [List.getD_eq_getElem?_getD, List.getElem?_eq_getElem (by simpa using by omega)]
    exact hw _ (List.getElem_mem _)

theorem trod_row {α : Type} (K : Kd α) {e : TypeId} {ok : α → Prop} (ht : P.underlying t = some (.slice e)) (hC : P.cellsOf e = K.sz)
    (hel : ∀ (n : Nat) (cs : List Value) (y : DataW H × List MemPlace), DataW.trod enc P w base spare held n e cs = some y → ∃ a, K.K w a cs ∧ ok a)
    (h : DataW.trod enc P w base spare held fuel t cs = some x) :
    ∃ (A : Option Addr) (n c : Nat) (l : List α), cs = [.slice A n c] ∧ l.length = n ∧ n ≤ c ∧ c ≤ maxLen ∧ Kd.C K w A n l ∧ ∀ z ∈ l, ok z := by
  rcases Go.Deep.open_slice ht h with ⟨rfl, _⟩ | ⟨a, len, cap, m, n, D, Pl, rfl, _, hle, hcap, hm, _, hi⟩
  · exact ⟨none, 0, 0, [], rfl, rfl, Nat.le_refl _, by simp [maxLen], ⟨rfl, by omega, fun h => absurd h (by omega)⟩, by simp⟩
  · have hlm : len ≤ m := by rw [hm]; split <;> omega
    have hall : ∀ i : Nat, ∃ (z : Option α), i < len → ∃ y cs', z = some y ∧ K.K w y cs' ∧ ok y ∧ w.cells? base (a.add (i * P.cellsOf e)) (P.cellsOf e) = some cs' := by
      intro i
      by_cases hlt : i < len
      · obtain ⟨cs', hc, htr⟩ := hi i (by omega)
        obtain ⟨y, hk, ho⟩ := hel _ _ _ htr
        exact ⟨some y, fun _ => ⟨y, cs', rfl, hk, ho, hc⟩⟩
      · exact ⟨none, fun h => absurd h hlt⟩
    obtain ⟨f, hf⟩ := Classical.axiomOfChoice hall
    have hd : ∀ i, i < len → (f i).isSome := fun i hlt => by obtain ⟨y, _, e, _⟩ := hf i hlt; rw [e]; rfl
    let g : (i : Fin len) → α := fun i => (f i).get (hd i i.2)
    refine ⟨some a, len, cap, List.ofFn g, rfl, by simp, hle, hcap, ⟨by simp, by unfold maxLen at hcap; omega, fun _ => ⟨a, rfl, ?_⟩⟩, ?_⟩
    · intro j p hj
      rw [List.getElem?_ofFn] at hj
      split at hj
      · next hlt =>
        obtain ⟨y, cs', e1, hk, _, hc⟩ := hf j hlt
        have hp : p = y := by simp only [Option.some.injEq] at hj; rw [← hj]; simp [g, e1]
        subst hp
        obtain ⟨_, hcl, hat⟩ := World.cells?_some hc
        rw [hC] at hcl hat
        refine ⟨cs', K.K_len hk, hk, fun i u hu => ?_⟩
        have hlt2 : i < cs'.length := (List.getElem?_eq_some_iff.1 hu).1
        have := hat i (by rw [K.K_len hk] at hlt2; exact hlt2)
        rw [Go.Deep.add_add] at this
        rw [this, hu]
      · cases hj
    · intro z hz
      rw [List.mem_ofFn] at hz
      obtain ⟨i, rfl⟩ := hz
      obtain ⟨y, cs', e1, hk, ho, hc⟩ := hf i i.2
      simpa [g, e1] using ho
end

theorem okWide_array {P : Program} {w : World} {r : Reach} {base : Nat} {t : TypeId} {v : Value} {n : Nat} {e : TypeId} (ht : P.underlying t = some (.array n e)) (h : Value.okWide P w r base t v) : ∃ cs, v = .agg cs ∧ cs.size = P.cellsOf t := by
  simp only [Value.okWide, ht] at h
  obtain ⟨cs, h1, h2, _⟩ := h
  exact ⟨cs, h1, h2⟩

theorem chunk (cs : List Value) (o s : Nat) : cs.drop o = (cs.drop o).take s ++ cs.drop (o + s) := by
  rw [← List.drop_drop]
  exact (List.take_append_drop s (cs.drop o)).symm
theorem pieces1 (cs : List Value) (a : Nat) (h : cs.length = a) : cs = (cs.drop 0).take a := by
  simp [List.take_of_length_le (Nat.le_of_eq h)]
theorem pieces2 (cs : List Value) (a b : Nat) (h : cs.length = a + b) : cs = (cs.drop 0).take a ++ (cs.drop a).take b := by
  have h1 := chunk cs 0 a
  have h2 := chunk cs a b
  rw [List.drop_of_length_le (show cs.length ≤ a + b by omega), List.append_nil] at h2
  rw [Nat.zero_add, h2] at h1
  simpa using h1
theorem pieces3 (cs : List Value) (a b c : Nat) (h : cs.length = a + b + c) : cs = (cs.drop 0).take a ++ ((cs.drop a).take b ++ (cs.drop (a + b)).take c) := by
  have h1 := chunk cs 0 a
  have h2 := chunk cs a b
  have h3 := chunk cs (a + b) c
  rw [List.drop_of_length_le (show cs.length ≤ a + b + c by omega), List.append_nil] at h3
  rw [h3] at h2
  rw [Nat.zero_add, h2] at h1
  simpa using h1
theorem pieces4 (cs : List Value) (a b c d : Nat) (h : cs.length = a + b + c + d) : cs = (cs.drop 0).take a ++ ((cs.drop a).take b ++ ((cs.drop (a + b)).take c ++ (cs.drop (a + b + c)).take d)) := by
  have h1 := chunk cs 0 a
  have h2 := chunk cs a b
  have h3 := chunk cs (a + b) c
  have h4 := chunk cs (a + b + c) d
  rw [List.drop_of_length_le (show cs.length ≤ a + b + c + d by omega), List.append_nil] at h4
  rw [h4] at h3
  rw [h3] at h2
  rw [Nat.zero_add, h2] at h1
  simpa using h1

theorem below_of_drawn {W W' : World} (h : Drawn0 W W') : Below W.heap.size W W' := by
  obtain ⟨n, rfl⟩ := h
  exact pw_below_drewN (Below.refl _ _) n

/-! ### arrays in memory -/
def vrd {n : Nat} (v : Vector Int n) (j : Int) : Int := v.toList.getD j.toNat 0
def vst {n : Nat} (v : Vector Int n) (j : Int) (y : Int) : Vector Int n := v.setIfInBounds j.toNat y
theorem arL_get (k : IntKind) {n : Nat} (v : Vector Int n) (j : Int) (h0 : 0 ≤ j) (h1 : j < n) : (arL k v)[j.toNat]? = some (.int k (vrd v j)) := by
  have h : j.toNat < v.toList.length := by simp; omega
  unfold arL vrd
  rw [List.getElem?_map, List.getElem?_eq_getElem h, List.getD_eq_getElem?_getD, List.getElem?_eq_getElem h]
  rfl
theorem arL_set (k : IntKind) {n : Nat} (v : Vector Int n) (j : Int) (y : Int) : (arL k v).set j.toNat (.int k y) = arL k (vst v j y) := by
  unfold arL vst
  rw [← List.map_set]
  congr 1
  rw [Vector.toList_setIfInBounds]
theorem arL_one (k : IntKind) {n : Nat} (v : Vector Int n) : ∀ u ∈ arL k v, u.oneCell' = true := by
  intro u hu
  unfold arL at hu
  obtain ⟨z, _, rfl⟩ := List.mem_map.1 hu
  rfl
/-- an element's cell -/
theorem cellA {w : World} {g off : Nat} {t : TypeId} {l : List Value} {k : IntKind} {n : Nat} {v : Vector Int n} (hb : w.heap[g]? = some (.cells ⟨l⟩ t (0, 0))) (hl : l.drop off = arL k v) (j : Int) (h0 : 0 ≤ j) (h1 : j < n) :
    w.cell? ⟨g, off + j.toNat, none⟩ = some (.int k (vrd v j)) := by
  rw [blk_cell hb]
  have := arL_get k v j h0 h1
  rw [← hl, List.getElem?_drop] at this
  simpa using this
theorem cellA0 {w : World} {g : Nat} {t : TypeId} {l : List Value} {k : IntKind} {n : Nat} {v : Vector Int n} (hb : w.heap[g]? = some (.cells ⟨l⟩ t (0, 0))) (hl : l.drop 0 = arL k v) (j : Int) (h0 : 0 ≤ j) (h1 : j < n) :
    w.cell? ⟨g, j.toNat, none⟩ = some (.int k (vrd v j)) := by
  have := cellA hb hl j h0 h1
  rwa [Nat.zero_add] at this
/-- an element is written -/
theorem setA {w : World} {g off : Nat} {t : TypeId} {l : List Value} {k : IntKind} {n : Nat} {v : Vector Int n} (hb : w.heap[g]? = some (.cells ⟨l⟩ t (0, 0))) (pre : List Value) (hp : pre.length = off) (hl : l = pre ++ arL k v) (j : Int) (y : Int) :
    (w.setCell ⟨g, off + j.toNat, none⟩ (.int k y)).heap[g]? = some (.cells ⟨pre ++ arL k (vst v j y)⟩ t (0, 0)) := by
  rw [blk_set hb (off + j.toNat) (.int k y)]
  congr 2
  subst hl
  rw [← arL_set]
  apply Array.ext'
  rw [Array.toList_setIfInBounds]
  show (pre ++ arL k v).set (off + j.toNat) (.int k y) = pre ++ (arL k v).set j.toNat (.int k y)
  rw [List.set_append_right _ _ (by omega), hp, Nat.add_sub_cancel_left]
theorem rangeA {w : World} {g off : Nat} {t : TypeId} {l m : List Value} {fr : Nat × Nat} (hb : w.heap[g]? = some (.cells ⟨l⟩ t fr)) (hm : l.drop off = m) : w.rangeAt g off m := by
  intro j u hu
  rw [cell_of_row w g (off + j) ⟨l⟩ t fr hb, ← hu, ← hm, List.getElem?_drop]
  simp
theorem thereA {w : World} {g off : Nat} {t : TypeId} {l m : List Value} (hb : w.heap[g]? = some (.cells ⟨l⟩ t (0, 0))) (hm : (l.drop off).length = m.length) : w.there g off m.length := by
  intro j hj
  refine ⟨?_, blk_frozen hb _⟩
  rw [blk_cell hb]
  have : off + j < l.length := by rw [List.length_drop] at hm; omega
  simp [this]
section
variable {P : Program} {ops : Array Oper} {rest : List Oper} {o : Oper} {a : Act} {W : World} {Q : Exit → Act → World → Prop}
/-- The operation is a load of this type through this place. -/
theorem gate_load {t : TypeId} {p : Tmp} (_ho : o.op = .load t (.tmp p)) (h : wpList P ops Q (o :: rest) a W) : wpList P ops Q (o :: rest) a W := h
/-- A row of cells is loaded. -/
theorem loadA (hgd : o.guard = none) {T : TypeId} {p : Tmp} (ho : o.op = .load T (.tmp p)) {g off : Nat} (hx : a.eval (.tmp p) = .pointer (some ⟨g, off, none⟩)) {t : TypeId} {l m : List Value} {fr : Nat × Nat}
    (hb : W.heap[g]? = some (.cells ⟨l⟩ t fr)) (hm : l.drop off = m) {d : TypeDesc} (hu : P.underlying T = some d) (hd : d.isRow = true) {n : Nat} (hi : (P.info? T).map (·.size) = some n) (hn : m.length = n)
    (h : wpList P ops Q rest (a.put o.dst (.agg ⟨m⟩)) W) : wpList P ops Q (o :: rest) a W :=
  wpList_load_mid hgd T (.tmp p) ho g off hx m d (rangeA hb hm) hu hd (by rw [hi, hn]) h
theorem heap_setCells_ne (g : Nat) : ∀ (vs : List Value) (off : Nat) (w : World) (k : Nat), k ≠ g → (w.setCells g off vs).heap[k]? = w.heap[k]?
  | [], _, _, _, _ => rfl
  | v :: vs, off, w, k, h => by
    show ((w.setCell ⟨g, off, none⟩ v).setCells g (off + 1) vs).heap[k]? = _
    rw [heap_setCells_ne g vs (off + 1) _ k h]
    exact Below.heap_setCell w ⟨g, off, none⟩ v k h
theorem heap_setCells_same (g : Nat) (t : TypeId) : ∀ (vs : List Value) (off : Nat) (w : World) (pre post : List Value), pre.length = off → w.heap[g]? = some (.cells ⟨pre ++ post⟩ t (0, 0)) → vs.length ≤ post.length →
    (w.setCells g off vs).heap[g]? = some (.cells ⟨pre ++ (vs ++ post.drop vs.length)⟩ t (0, 0))
  | [], off, w, pre, post, _, hb, _ => by simpa [World.setCells] using hb
  | v :: vs, off, w, pre, post, hp, hb, hl => by
    cases post with
    | nil => simp at hl
    | cons u post =>
      show ((w.setCell ⟨g, off, none⟩ v).setCells g (off + 1) vs).heap[g]? = _
      have hb2 : (w.setCell ⟨g, off, none⟩ v).heap[g]? = some (.cells ⟨(pre ++ [v]) ++ post⟩ t (0, 0)) := by
        rw [blk_set hb off v]
        congr 2
        apply Array.ext'
        rw [Array.toList_setIfInBounds]
        show (pre ++ u :: post).set off v = pre ++ [v] ++ post
        rw [List.set_append_right _ _ (by omega), hp, Nat.sub_self]
        simp
      rw [heap_setCells_same g t vs (off + 1) _ (pre ++ [v]) post (by simp [hp]) hb2 (by simpa using hl)]
      simp
theorem size_setCells (g : Nat) : ∀ (vs : List Value) (off : Nat) (w : World), (w.setCells g off vs).heap.size = w.heap.size
  | [], _, _ => rfl
  | v :: vs, off, w => by
    show ((w.setCell ⟨g, off, none⟩ v).setCells g (off + 1) vs).heap.size = _
    rw [size_setCells g vs (off + 1) _]
    exact World.size_setCell _ _ _
theorem below_setCells (g : Nat) : ∀ (vs : List Value) (off : Nat) (w : World) {B : Nat} {w0 : World}, Below B w0 w → B ≤ g → Below B w0 (w.setCells g off vs)
  | [], _, _, _, _, h, _ => h
  | v :: vs, off, w, B, w0, h, hg => below_setCells g vs (off + 1) (w.setCell ⟨g, off, none⟩ v) (h.setCell hg _) hg
theorem grown_setCells (g : Nat) (vs : List Value) (off : Nat) (w : World) : w.grownBy (w.setCells g off vs) (some g) := by
  have h := below_setCells g vs off w (Below.refl 0 w) (Nat.zero_le g)
  exact ⟨h.os, h.tape, h.output, Nat.le_of_eq (size_setCells g vs off w).symm, fun k _ hk => heap_setCells_ne g vs off w k (fun e => hk (by rw [e]))⟩
/-- A row of cells is stored. -/
theorem storeA (hgd : o.guard = none) {T : TypeId} {p : Tmp} {v : Operand} (ho : o.op = .store T (.tmp p) v) (hN : o.dst = none) {g off : Nat} (hx : a.eval (.tmp p) = .pointer (some ⟨g, off, none⟩)) {m : List Value} (hy : a.eval v = .agg ⟨m⟩)
    {t : TypeId} {pre old : List Value} (hb : W.heap[g]? = some (.cells ⟨pre ++ old⟩ t (0, 0))) (hp : pre.length = off) (hm : old.length = m.length) {n : Nat} (hi : (P.info? T).map (·.size) = some n) (hn : m.length = n) (h1 : ∀ u ∈ m, u.oneCell' = true)
    (h : ∀ w1, w1.heap[g]? = some (.cells ⟨pre ++ m⟩ t (0, 0)) → W.grownBy w1 (some g) → (∀ (B : Nat) (w0 : World), Below B w0 W → B ≤ g → Below B w0 w1) → wpList P ops Q rest a w1) : wpList P ops Q (o :: rest) a W := by
  have ht : W.there g off m.length := thereA (l := pre ++ old) hb (by rw [← hp, List.drop_left]; exact hm)
  refine wpList_store_mid hgd T (.tmp p) v ho g off ⟨m⟩ hx hy (by simpa using ht) (by rw [hi]; simp [hn]) (by simpa using fun u hu => h1 u hu) ?_
  have hput : a.put o.dst undef = a := by rw [hN]; rfl
  rw [hput]
  refine h _ ?_ (grown_setCells g m off W) (fun B w0 hB hg => below_setCells g m off W hB hg)
  have := heap_setCells_same g t m off W pre old hp hb (by omega)
  rw [this, List.drop_of_length_le (by omega), List.append_nil]
/-- An element of an array is stored. -/
theorem putA (hgd : o.guard = none) {T : TypeId} {p : Tmp} {v : Operand} (ho : o.op = .store T (.tmp p) v) (hN : o.dst = none) {g off : Nat} {j : Int} {k : IntKind} {y : Int} {n : Nat} {x : Vector Int n}
    {t : TypeId} {pre : List Value} (hb : W.heap[g]? = some (.cells ⟨pre ++ arL k x⟩ t (0, 0))) (hp : pre.length = off)
    (hrun : (execOp a.eval o).run P W = .ok .skip (W.setCell ⟨g, off + j.toNat, none⟩ (.int k y)))
    (h : ∀ w1, w1.heap[g]? = some (.cells ⟨pre ++ arL k (vst x j y)⟩ t (0, 0)) → W.grownBy w1 (some g) → (∀ (B : Nat) (w0 : World), Below B w0 W → B ≤ g → Below B w0 w1) → wpList P ops Q rest a w1) : wpList P ops Q (o :: rest) a W := by
  refine store_event hgd ho hN hrun (fun w1 hw => ?_)
  subst hw
  exact h _ (setA hb pre hp rfl j y) (grown_setCells g [.int k y] (off + j.toNat) W) (fun B w0 hB hg => hB.setCell hg _)
end
/-! ### arrays: elements by their own names (for the print) -/
def vrd2 (m : Nat) {n : Nat} (v : Vector Int n) (i j : Int) : Int := v.toList.getD (i.toNat * m + j.toNat) 0
def vst2 (m : Nat) {n : Nat} (v : Vector Int n) (i j : Int) (y : Int) : Vector Int n := v.setIfInBounds (i.toNat * m + j.toNat) y
def vrow (m : Nat) {n : Nat} (v : Vector Int n) (i : Int) : Vector Int m := Vector.ofFn fun k => v.toList.getD (i.toNat * m + k) 0
theorem arL_getN (k : IntKind) {n : Nat} (v : Vector Int n) (i : Nat) (h : i < n) : (arL k v)[i]? = some (.int k (v.toList.getD i 0)) := by
  have h' : i < v.toList.length := by simpa using h
  unfold arL
  rw [List.getElem?_map, List.getElem?_eq_getElem h', List.getD_eq_getElem?_getD, List.getElem?_eq_getElem h']
  rfl
theorem cellN {w : World} {g off : Nat} {t : TypeId} {l : List Value} {k : IntKind} {n : Nat} {v : Vector Int n} (hb : w.heap[g]? = some (.cells ⟨l⟩ t (0, 0))) (hl : l.drop off = arL k v) (m i : Nat) (hm : m = off + i) (hi : i < n) :
    w.cell? ⟨g, m, none⟩ = some (.int k (v.toList.getD i 0)) := by
  rw [blk_cell hb, hm]
  have := arL_getN k v i hi
  rw [← hl, List.getElem?_drop] at this
  simpa using this
theorem ones_0 {k : IntKind} {n : Nat} {v : Vector Int n} : ∀ u ∈ arL k v, u.oneCell' = true := arL_one k v
theorem ones_1 {k : IntKind} {n : Nat} {v : Vector Int n} {a : Value} (h : a.oneCell' = true) : ∀ u ∈ a :: arL k v, u.oneCell' = true := by
  intro u hu
  rcases List.mem_cons.1 hu with rfl | hu
  · exact h
  · exact arL_one k v u hu
theorem ones_2 {k : IntKind} {n : Nat} {v : Vector Int n} {a b : Value} (h : a.oneCell' = true) (h2 : b.oneCell' = true) : ∀ u ∈ a :: b :: arL k v, u.oneCell' = true := by
  intro u hu
  rcases List.mem_cons.1 hu with rfl | hu
  · exact h
  · exact ones_1 h2 u hu
theorem setN {w : World} {g off : Nat} {t : TypeId} {k : IntKind} {n : Nat} {v : Vector Int n} {pre : List Value} (hb : w.heap[g]? = some (.cells ⟨pre ++ arL k v⟩ t (0, 0))) (hp : pre.length = off) (m i : Nat) (hm : m = off + i) (y : Int) :
    (w.setCell ⟨g, m, none⟩ (.int k y)).heap[g]? = some (.cells ⟨pre ++ arL k (v.setIfInBounds i y)⟩ t (0, 0)) := by
  rw [blk_set hb m (.int k y)]
  congr 2
  apply Array.ext'
  rw [Array.toList_setIfInBounds]
  show (pre ++ arL k v).set m (.int k y) = pre ++ arL k (v.setIfInBounds i y)
  rw [List.set_append_right _ _ (by omega), hp, hm, Nat.add_sub_cancel_left]
  congr 1
  unfold arL
  rw [← List.map_set]
  congr 1
  rw [Vector.toList_setIfInBounds]
section
variable {P : Program} {ops : Array Oper} {rest : List Oper} {o : Oper} {a : Act} {W : World} {Q : Exit → Act → World → Prop}
/-- An element of an array is stored. -/
theorem putN (hgd : o.guard = none) {T : TypeId} {p : Tmp} {v : Operand} (ho : o.op = .store T (.tmp p) v) (hN : o.dst = none) {g off m n : Nat} {k : IntKind} {y : Int} {N : Nat} {x : Vector Int N}
    {t : TypeId} {pre : List Value} (hb : W.heap[g]? = some (.cells ⟨pre ++ arL k x⟩ t (0, 0))) (hp : pre.length = off) (hm : m = off + n)
    (hrun : (execOp a.eval o).run P W = .ok .skip (W.setCell ⟨g, m, none⟩ (.int k y)))
    (h : ∀ w1, w1.heap[g]? = some (.cells ⟨pre ++ arL k (x.setIfInBounds n y)⟩ t (0, 0)) → W.grownBy w1 (some g) → (∀ (B : Nat) (w0 : World), Below B w0 W → B ≤ g → Below B w0 w1) → wpList P ops Q rest a w1) : wpList P ops Q (o :: rest) a W := by
  refine store_event hgd ho hN hrun (fun w1 hw => ?_)
  subst hw
  exact h _ (setN hb hp m n hm y) (grown_setCells g [.int k y] m W) (fun B w0 hB hg => hB.setCell hg _)
end
theorem vrow_getD (m : Nat) {M : Nat} (v : Vector Int M) (j : Int) (q : Nat) (h : q < m) : (vrow m v j).toList.getD q 0 = v.toList.getD (j.toNat * m + q) 0 := by
  unfold vrow
  rw [List.getD_eq_getElem?_getD, Vector.toList_ofFn, List.getElem?_ofFn]
  simp [h]
theorem row_get (k : IntKind) {M : Nat} (v : Vector Int M) (m : Nat) (j : Int) (h : j.toNat * m + m ≤ M) (q : Nat) (hq : q < m) : (arL k (vrow m v j))[q]? = (arL k v)[j.toNat * m + q]? := by
  rw [arL_getN k (vrow m v j) q hq, arL_getN k v (j.toNat * m + q) (by omega), vrow_getD m v j q hq]
section
variable {P : Program} {ops : Array Oper} {rest : List Oper} {o : Oper} {a : Act} {W : World} {Q : Exit → Act → World → Prop}
theorem loadRow (hgd : o.guard = none) {T : TypeId} {p : Tmp} (ho : o.op = .load T (.tmp p)) {g off : Nat} (hx : a.eval (.tmp p) = .pointer (some ⟨g, off, none⟩)) {t : TypeId} {pre : List Value} {M : Nat} {k : IntKind} {v : Vector Int M} {m : Nat} {j : Int} {fr : Nat × Nat}
    (hb : W.heap[g]? = some (.cells ⟨pre ++ arL k v⟩ t fr)) (hoff : off = pre.length + j.toNat * m) (hbd : j.toNat * m + m ≤ M) {d : TypeDesc} (hu : P.underlying T = some d) (hd : d.isRow = true) (hi : (P.info? T).map (·.size) = some m)
    (h : wpList P ops Q rest (a.put o.dst (.agg ⟨arL k (vrow m v j)⟩)) W) : wpList P ops Q (o :: rest) a W := by
  refine wpList_load_mid hgd T (.tmp p) ho g off hx (arL k (vrow m v j)) d ?_ hu hd (by rw [hi, arL_length]) h
  intro q u hu2
  have hq : q < m := by
    by_cases z : q < m
    · exact z
    · rw [List.getElem?_eq_none (by rw [arL_length]; omega)] at hu2; cases hu2
  rw [cell_of_row W g (off + q) ⟨pre ++ arL k v⟩ t fr hb]
  show (pre ++ arL k v).toArray[off + q]? = some u
  rw [List.getElem?_toArray, List.getElem?_append_right (by omega), show off + q - pre.length = j.toNat * m + q by omega, ← row_get k v m j hbd q hq]
  exact hu2
end
theorem stored_at {W : World} {g off m n : Nat} {k : IntKind} {y : Int} {N : Nat} {x : Vector Int N} {t : TypeId} {pre : List Value} (hb : W.heap[g]? = some (.cells ⟨pre ++ arL k x⟩ t (0, 0))) (hp : pre.length = off) (hm : m = off + n) :
    ∃ w1, W.setCell ⟨g, m, none⟩ (.int k y) = w1 ∧ w1.heap[g]? = some (.cells ⟨pre ++ arL k (x.setIfInBounds n y)⟩ t (0, 0)) ∧ W.grownBy w1 (some g) ∧ (∀ (B : Nat) (w0 : World), Below B w0 W → B ≤ g → Below B w0 w1) :=
  ⟨_, rfl, setN hb hp m n hm y, grown_setCells g [.int k y] m W, fun B w0 hB hg => hB.setCell hg _⟩
section
variable {P : Program} {w : World}
theorem run_sizeOf_of {e : TypeId} {n : Nat} (hs : (P.info? e).map (·.size) = some n) (w : World) : (sizeOf e).run P w = .ok n w := by
  cases hq : P.info? e with
  | none => simp [hq] at hs
  | some i =>
    have : i.size = n := by simpa [hq] using hs
    simp [sizeOf, typeInfo, hq, this]
theorem run_part_int {e : TypeId} {k : IntKind} (he : P.underlying e = some (.int k)) {xs : Array Value} {off : Nat} {v : Value} (hx : xs[off]? = some v) (w : World) : (part e xs off).run P w = .ok v w := by
  simp [part, isAgg, run_underlying he, hx]
theorem index_arr {T e : TypeId} {N : Nat} {k : IntKind} (hT : P.underlying T = some (.array N e)) (he : P.underlying e = some (.int k)) (hs : (P.info? e).map (·.size) = some 1) (_hN : N = N) (x : Vector Int N) (j : Int) (ik : IntKind) (h0 : 0 ≤ j) (h1 : j < N) :
    (Instr.index T (.agg ⟨arL k x⟩) (.int ik j)).run P w = .ok (.int k (vrd x j)) w := by
  have hx : (⟨arL k x⟩ : Array Value)[j.toNat]? = some (.int k (vrd x j)) := by
    show (arL k x).toArray[j.toNat]? = _
    rw [List.getElem?_toArray]
    exact arL_getN k x j.toNat (by omega)
  simp only [Instr.index, asIntOf, Sem.run_bind, Sem.run_pure, Result.andThen_ok, run_underlying hT, h0, h1, and_self, if_true, run_sizeOf_of hs, Nat.mul_one]
  exact run_part_int he hx w
theorem take_row (k : IntKind) {M : Nat} (v : Vector Int M) (m : Nat) (j : Int) (h : j.toNat * m + m ≤ M) : ((arL k v).drop (j.toNat * m)).take m = arL k (vrow m v j) := by
  apply List.ext_getElem?
  intro q
  by_cases hq : q < m
  · rw [List.getElem?_take_of_lt (by omega), List.getElem?_drop, row_get k v m j h q hq]
  · rw [List.getElem?_eq_none (by simp; omega), List.getElem?_eq_none (by rw [arL_length]; omega)]
theorem index_row {T e e2 : TypeId} {N m M : Nat} {k : IntKind} (hT : P.underlying T = some (.array N e)) (he : P.underlying e = some (.array m e2)) (hs : (P.info? e).map (·.size) = some m) (hN : N * m = M) (x : Vector Int M) (j : Int) (ik : IntKind) (h0 : 0 ≤ j) (h1 : j < N) :
    (Instr.index T (.agg ⟨arL k x⟩) (.int ik j)).run P w = .ok (.agg ⟨arL k (vrow m x j)⟩) w := by
  have hb : j.toNat * m + m ≤ M := by
    have h2 : j.toNat + 1 ≤ N := by omega
    have h3 := Nat.mul_le_mul_right m h2
    rw [Nat.add_mul, Nat.one_mul] at h3
    omega
  simp only [Instr.index, asIntOf, Sem.run_bind, Sem.run_pure, Result.andThen_ok, run_underlying hT, h0, h1, and_self, if_true, run_sizeOf_of hs]
  simp [part, isAgg, run_underlying he, run_sizeOf_of hs]
  exact take_row k x m j hb
theorem agg_get {k : IntKind} {n : Nat} (v : Vector Int n) (i : Nat) (h : i < n) : (⟨arL k v⟩ : Array Value)[i]? = some (.int k (v.toList.getD i 0)) := by
  show (arL k v).toArray[i]? = _
  rw [List.getElem?_toArray]
  exact arL_getN k v i h
theorem ext_getD {n : Nat} (x y : Vector Int n) (h : ∀ i, i < n → x.toList.getD i 0 = y.toList.getD i 0) : x = y := by
  apply Vector.ext
  intro i hi
  have := h i hi
  simpa [List.getD_eq_getElem?_getD, hi] using this
theorem run_equalIn_int {e : TypeId} {k : IntKind} (he : P.underlying e = some (.int k)) (d : Nat) (a b : Int) (w : World) : (Op.equalIn (d + 1) e (.int k a) (.int k b)).run P w = .ok (a == b) w := by
  simp [Op.equalIn, run_underlying he]
theorem eq_arr {T e : TypeId} {N : Nat} {k : IntKind} {d : Nat} (hT : P.underlying T = some (.array N e)) (he : P.underlying e = some (.int k)) (hs : (P.info? e).map (·.size) = some 1) (_hN : N = N) (x y : Vector Int N) :
    (Op.equalIn (d + 2) T (.agg ⟨arL k x⟩) (.agg ⟨arL k y⟩)).run P w = .ok (x == y) w := by
  rw [show d + 2 = (d + 1) + 1 from rfl]
  unfold Op.equalIn
  simp only [Sem.run_bind, run_underlying hT, Result.andThen_ok, run_sizeOf_of hs, Nat.mul_one, Std.Legacy.Range.forIn_eq_forIn_range', Std.Legacy.Range.size, Nat.sub_zero, Nat.add_sub_cancel, Nat.div_one]
  have key : ∀ (m i : Nat), i + m = N → (∀ q, q < i → x.toList.getD q 0 = y.toList.getD q 0) →
      (forIn (m := Sem) (List.range' i m 1) ((none : Option Bool), ()) fun i r => do
        let a ← part e ⟨arL k x⟩ i
        let b ← part e ⟨arL k y⟩ i
        let r' ← Op.equalIn (d + 1) e a b
        if (!r') = true then pure (ForInStep.done (some false, ())) else pure (ForInStep.yield (none, ()))).run P w = .ok (if x == y then (none, ()) else (some false, ())) w := by
    intro m
    induction m with
    | zero =>
      intro i hi hq
      have : x = y := ext_getD x y (fun q hq' => hq q (by omega))
      simp [this]
    | succ m ih =>
      intro i hi hq
      simp only [List.range'_succ, List.forIn_cons, Sem.run_bind, run_part_int he (agg_get x i (by omega)), run_part_int he (agg_get y i (by omega)), Result.andThen_ok, run_equalIn_int he]
      by_cases h : x.toList.getD i 0 = y.toList.getD i 0
      · simp only [h, beq_self_eq_true, Bool.not_true, Bool.false_eq_true, if_false, Sem.run_pure, Result.andThen_ok]
        exact ih (i + 1) (by omega) (fun q hq' => by
          by_cases e : q = i
          · rw [e]; exact h
          · exact hq q (by omega))
      · have hne : (x == y) = false := by
          rw [beq_eq_false_iff_ne]
          intro e
          exact h (by rw [e])
        rw [show (x.toList.getD i 0 == y.toList.getD i 0) = false from beq_eq_false_iff_ne.2 h]
        simp [hne]
  rw [key N 0 (by omega) (fun q hq => by omega)]
  by_cases h : (x == y) = true <;> simp [h]
end
section
variable {P : Program} {o : Oper} {W : World}
theorem exec_load {ev : Operand → Value} {T : TypeId} {p : Tmp} (ho : o.op = .load T (.tmp p)) {g off : Nat} (hx : ev (.tmp p) = .pointer (some ⟨g, off, none⟩)) {t : TypeId} {l m : List Value} {fr : Nat × Nat}
    (hb : W.heap[g]? = some (.cells ⟨l⟩ t fr)) (hm : l.drop off = m) {d : TypeDesc} (hu : P.underlying T = some d) (hd : d.isRow = true) {n : Nat} (hi : (P.info? T).map (·.size) = some n) (hn : m.length = n) :
    (execOp ev o).run P W = .ok (.value (.agg ⟨m⟩)) W := by
  unfold execOp
  simp only [ho, hx, Instr.loadAt, Instr.sureAddr, Sem.run_bind, Sem.run_pure, Result.andThen_ok, run_loadVar_mid W g off T m d (rangeA hb hm) hu hd (by rw [hi, hn])]
end
/-! a slice that is nil just where it is empty -/
theorem len_ne {α : Type} {l : List α} (h : ¬ ((l.length : Int) = 0)) : ¬ (l.length = ([] : List α).length) := by
  intro e; apply h; rw [e]; rfl
theorem nil_isNone {α : Type} {d : Kd α} {w : World} {A : Option Addr} {c : Nat} {xs : List α} (hn : xs = [] → (.slice A xs.length c : Value) = .slice none 0 0) (hC : Kd.C d w A xs.length xs) : A.isNone = ((xs.length : Int) == 0) := by
  cases xs with
  | nil => have h := hn rfl; injection h with h1; subst h1; rfl
  | cons x xs =>
    obtain ⟨ad, e, _⟩ := hC.2.2 (by simp)
    subst e
    have : (((x :: xs).length : Int) == 0) = false := by
      refine beq_eq_false_iff_ne.2 ?_
      simp only [List.length_cons]; omega
    rw [this]; rfl
theorem nil_neq {P : Program} {T E : TypeId} {α : Type} {d : Kd α} {w : World} {A : Option Addr} {c : Nat} {xs : List α} (hu : P.underlying T = some (.slice E)) (hn : xs = [] → (.slice A xs.length c : Value) = .slice none 0 0) (hC : Kd.C d w A xs.length xs) :
    ∀ W : World, (binOp .neq T (.slice A xs.length c) (.slice none 0 0)).run P W = .ok (.bool ((xs.length : Int) != 0)) W := by
  intro W
  rw [show ((xs.length : Int) != 0) = !A.isNone by rw [nil_isNone hn hC]; rfl]
  simp only [binOp]
  simp [Op.equal, Op.maxDepth, Lib.run_equalIn_slice_nil W 9999 T E A _ c 0 0 hu]
theorem nil_eql {P : Program} {T E : TypeId} {α : Type} {d : Kd α} {w : World} {A : Option Addr} {c : Nat} {xs : List α} (hu : P.underlying T = some (.slice E)) (hn : xs = [] → (.slice A xs.length c : Value) = .slice none 0 0) (hC : Kd.C d w A xs.length xs) :
    ∀ W : World, (binOp .eql T (.slice A xs.length c) (.slice none 0 0)).run P W = .ok (.bool ((xs.length : Int) == 0)) W := by
  intro W
  rw [← nil_isNone hn hC]
  exact Lib.run_eql_slice_nil W T E A _ c 0 0 hu
theorem keep_self {w w1 w2 : World} {g : Nat} (h : KeepBut w w1 g none) (hg : w1.grownBy w2 (some g)) : KeepBut w w2 g none :=
  ⟨Nat.le_trans h.1 hg.size, fun i hi hne hn => (hg.block i (Nat.lt_of_lt_of_le hi h.1) (fun e => hne (Option.some.inj e))).trans (h.2 i hi hne hn)⟩
theorem types_of {α β : Type} {d : Kd α} {d2 : Kd β} {e e2 base base2 : Nat} {ok ok2 : Nat → Prop} {W : World} {v : Value} {xs : List α} {ys : List β} {g n c : Nat} (h : d.R e W base ok v xs) (h2 : d2.R e2 W base2 ok2 (.slice (some ⟨g, 0, none⟩) n c) ys) (ht : ∀ q, q ∈ e :: d.E → q ≠ e2) : d.R e W base (fun k => ok k ∧ k ≠ g) v xs := by
  obtain ⟨cells, hb⟩ := Kd.R_typed h2 g rfl
  exact Kd.R_types h hb ht
end Go.Proofs.YtcghnnhhgngddaaDoor.Arr
