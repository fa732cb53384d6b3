-- by a program of this session, for this claim: words that the printed texts use, cut down to what is named
import Derived.Test.YtcghnnhhgngddaaDoorVSettledWMore
import Derived.Test.YtcghnnhhgngddaaDoorVSettledWWords
import Derived.Deep.Slices
import Derived.OpenShut
import Derived.ChangeArms
import Derived.WideShapes
import Derived.Below
import Derived.Deep.MidRow
import Derived.Laws.Rows
import Derived.Lib.SliceRun
namespace Go.Proofs.YtcghnnhhgngddaaDoor.Arr
open Go.RowKit Go.WideShapes Go.Proofs.YtcghnnhhgngddaaDoorW.PrintWords
set_option linter.unusedVariables false
set_option linter.unusedSimpArgs false
def arL (k : IntKind) {n : Nat} (v : Vector Int n) : List Value := v.toList.map (Value.int k)
theorem arL_length (k : IntKind) {n : Nat} (v : Vector Int n) : (arL k v).length = n := by simp [arL]
section
variable {H : Type} {enc : TypeId × Value → H} {P : Program} {w : World} {base : Nat} {spare : Nat → Bool} {held : Bool} {fuel : Nat} {t : TypeId} {cs : List Value} {x : DataW H × List MemPlace}
theorem trod_row {α : Type} (K : Kd α) {e : TypeId} {ok : α → Prop} (ht : P.underlying t = some (.slice e)) (hC : P.cellsOf e = K.sz)
    (hel : ∀ (n : Nat) (cs : List Value) (y : DataW H × List MemPlace), DataW.trod enc P w base spare held n e cs = some y → ∃ a, K.K w a cs ∧ ok a)
    (h : DataW.trod enc P w base spare held fuel t cs = some x) :
    ∃ (A : Option Addr) (n c : Nat) (l : List α), cs = [.slice A n c] ∧ l.length = n ∧ n ≤ c ∧ c ≤ maxLen ∧ Kd.C K w A n l ∧ ∀ z ∈ l, ok z := by
  rcases Go.Deep.open_slice ht h with ⟨rfl, _⟩ | ⟨a, len, cap, m, n, D, Pl, rfl, _, hle, hcap, hm, _, hi⟩
  · exact ⟨none, 0, 0, [], rfl, rfl, Nat.le_refl _, by simp [maxLen], ⟨rfl, by omega, fun h => absurd h (by omega)⟩, by simp⟩
  · have hlm : len ≤ m := by rw [hm]; split <;> omega
    have hall : ∀ i : Nat, ∃ (z : Option α), i < len → ∃ y cs', z = some y ∧ K.K w y cs' ∧ ok y ∧ w.cells? base (a.add (i * P.cellsOf e)) (P.cellsOf e) = some cs' := by
      intro i
      by_cases hlt : i < len
      · obtain ⟨cs', hc, htr⟩ := hi i (by omega)
        obtain ⟨y, hk, ho⟩ := hel _ _ _ htr
        exact ⟨some y, fun _ => ⟨y, cs', rfl, hk, ho, hc⟩⟩
      · exact ⟨none, fun h => absurd h hlt⟩
    obtain ⟨f, hf⟩ := Classical.axiomOfChoice hall
    have hd : ∀ i, i < len → (f i).isSome := fun i hlt => by obtain ⟨y, _, e, _⟩ := hf i hlt; rw [e]; rfl
    let g : (i : Fin len) → α := fun i => (f i).get (hd i i.2)
    refine ⟨some a, len, cap, List.ofFn g, rfl, by simp, hle, hcap, ⟨by simp, by unfold maxLen at hcap; omega, fun _ => ⟨a, rfl, ?_⟩⟩, ?_⟩
    · intro j p hj
      rw [List.getElem?_ofFn] at hj
      split at hj
      · next hlt =>
        obtain ⟨y, cs', e1, hk, _, hc⟩ := hf j hlt
        have hp : p = y := by simp only [Option.some.injEq] at hj; rw [← hj]; simp [g, e1]
        subst hp
        obtain ⟨_, hcl, hat⟩ := World.cells?_some hc
        rw [hC] at hcl hat
        refine ⟨cs', K.K_len hk, hk, fun i u hu => ?_⟩
        have hlt2 : i < cs'.length := (List.getElem?_eq_some_iff.1 hu).1
        have := hat i (by rw [K.K_len hk] at hlt2; exact hlt2)
        rw [Go.Deep.add_add] at this
        rw [this, hu]
      · cases hj
    · intro z hz
      rw [List.mem_ofFn] at hz
      obtain ⟨i, rfl⟩ := hz
      obtain ⟨y, cs', e1, hk, ho, hc⟩ := hf i i.2
      simpa [g, e1] using ho
end
theorem below_of_drawn {W W' : World} (h : Drawn0 W W') : Below W.heap.size W W' := by
  obtain ⟨n, rfl⟩ := h
  exact pw_below_drewN (Below.refl _ _) n
theorem thereA {w : World} {g off : Nat} {t : TypeId} {l m : List Value} (hb : w.heap[g]? = some (.cells ⟨l⟩ t (0, 0))) (hm : (l.drop off).length = m.length) : w.there g off m.length := by
  intro j hj
  refine ⟨?_, blk_frozen hb _⟩
  rw [blk_cell hb]
  have : off + j < l.length := by rw [List.length_drop] at hm; omega
  simp [this]
section
variable {P : Program} {ops : Array Oper} {rest : List Oper} {o : Oper} {a : Act} {W : World} {Q : Exit → Act → World → Prop}
theorem heap_setCells_ne (g : Nat) : ∀ (vs : List Value) (off : Nat) (w : World) (k : Nat), k ≠ g → (w.setCells g off vs).heap[k]? = w.heap[k]?
  | [], _, _, _, _ => rfl
  | v :: vs, off, w, k, h => by
    show ((w.setCell ⟨g, off, none⟩ v).setCells g (off + 1) vs).heap[k]? = _
    rw [heap_setCells_ne g vs (off + 1) _ k h]
    exact Below.heap_setCell w ⟨g, off, none⟩ v k h
theorem heap_setCells_same (g : Nat) (t : TypeId) : ∀ (vs : List Value) (off : Nat) (w : World) (pre post : List Value), pre.length = off → w.heap[g]? = some (.cells ⟨pre ++ post⟩ t (0, 0)) → vs.length ≤ post.length →
    (w.setCells g off vs).heap[g]? = some (.cells ⟨pre ++ (vs ++ post.drop vs.length)⟩ t (0, 0))
  | [], off, w, pre, post, _, hb, _ => by simpa [World.setCells] using hb
  | v :: vs, off, w, pre, post, hp, hb, hl => by
    cases post with
    | nil => simp at hl
    | cons u post =>
      show ((w.setCell ⟨g, off, none⟩ v).setCells g (off + 1) vs).heap[g]? = _
      have hb2 : (w.setCell ⟨g, off, none⟩ v).heap[g]? = some (.cells ⟨(pre ++ [v]) ++ post⟩ t (0, 0)) := by
        rw [blk_set hb off v]
        congr 2
        apply Array.ext'
        rw [Array.toList_setIfInBounds]
        show (pre ++ u :: post).set off v = pre ++ [v] ++ post
        rw [List.set_append_right _ _ (by omega), hp, Nat.sub_self]
        simp
      rw [heap_setCells_same g t vs (off + 1) _ (pre ++ [v]) post (by simp [hp]) hb2 (by simpa using hl)]
      simp
theorem size_setCells (g : Nat) : ∀ (vs : List Value) (off : Nat) (w : World), (w.setCells g off vs).heap.size = w.heap.size
  | [], _, _ => rfl
  | v :: vs, off, w => by
    show ((w.setCell ⟨g, off, none⟩ v).setCells g (off + 1) vs).heap.size = _
    rw [size_setCells g vs (off + 1) _]
    exact World.size_setCell _ _ _
theorem below_setCells (g : Nat) : ∀ (vs : List Value) (off : Nat) (w : World) {B : Nat} {w0 : World}, Below B w0 w → B ≤ g → Below B w0 (w.setCells g off vs)
  | [], _, _, _, _, h, _ => h
  | v :: vs, off, w, B, w0, h, hg => below_setCells g vs (off + 1) (w.setCell ⟨g, off, none⟩ v) (h.setCell hg _) hg
theorem grown_setCells (g : Nat) (vs : List Value) (off : Nat) (w : World) : w.grownBy (w.setCells g off vs) (some g) := by
  have h := below_setCells g vs off w (Below.refl 0 w) (Nat.zero_le g)
  exact ⟨h.os, h.tape, h.output, Nat.le_of_eq (size_setCells g vs off w).symm, fun k _ hk => heap_setCells_ne g vs off w k (fun e => hk (by rw [e]))⟩
end
section
variable {P : Program} {ops : Array Oper} {rest : List Oper} {o : Oper} {a : Act} {W : World} {Q : Exit → Act → World → Prop}
end
section
variable {P : Program} {ops : Array Oper} {rest : List Oper} {o : Oper} {a : Act} {W : World} {Q : Exit → Act → World → Prop}
end
section
variable {P : Program} {w : World}
end
section
variable {P : Program} {o : Oper} {W : World}
end
theorem types_of {α β : Type} {d : Kd α} {d2 : Kd β} {e e2 base base2 : Nat} {ok ok2 : Nat → Prop} {W : World} {v : Value} {xs : List α} {ys : List β} {g n c : Nat} (h : d.R e W base ok v xs) (h2 : d2.R e2 W base2 ok2 (.slice (some ⟨g, 0, none⟩) n c) ys) (ht : ∀ q, q ∈ e :: d.E → q ≠ e2) : d.R e W base (fun k => ok k ∧ k ≠ g) v xs := by
  obtain ⟨cells, hb⟩ := Kd.R_typed h2 g rfl
  exact Kd.R_types h hb ht
end Go.Proofs.YtcghnnhhgngddaaDoor.Arr
