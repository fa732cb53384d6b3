/- Words for this claim: a row of cells that is stored in a region of open order. General: no program in sight. -/
import Derived.Test.YtcghnnhhgngddaaDoorVSettledArr
namespace Go.Proofs.YtcghnnhhgngddaaDoor.Arr2
open Go Go.RowKit Go.Proofs.YtcghnnhhgngddaaDoor.Arr Go.Proofs.YtcghnnhhgngddaaDoorW.PrintWords
set_option linter.unusedVariables false
section
variable {P : Program} {o : Oper} {W : World}
theorem exec_store {ev : Operand → Value} {T : TypeId} {p : Tmp} {v : Operand} (ho : o.op = .store T (.tmp p) v) {g off : Nat} (hx : ev (.tmp p) = .pointer (some ⟨g, off, none⟩)) {m : List Value} (hy : ev v = .agg ⟨m⟩)
    {t : TypeId} {pre old : List Value} (hb : W.heap[g]? = some (.cells ⟨pre ++ old⟩ t (0, 0))) (hp : pre.length = off) (hm : old.length = m.length) {n : Nat} (hi : (P.info? T).map (·.size) = some n) (hn : m.length = n) (h1 : ∀ u ∈ m, u.oneCell' = true) :
    (execOp ev o).run P W = .ok .skip (W.setCells g off m) := by
  have ht : W.there g off m.length := thereA (l := pre ++ old) hb (by rw [← hp, List.drop_left]; exact hm)
  unfold execOp
  simp only [ho, hx, hy, Instr.storeAt, Instr.sureAddr, Sem.run_bind, Sem.run_pure, Result.andThen_ok]
  rw [run_storeVar_mid W g off T ⟨m⟩ (by simpa using ht) (by rw [hi]; simp [hn]) (by simpa using fun u hu => h1 u hu)]
  rfl
end
theorem stored_row {W : World} {g off : Nat} {t : TypeId} {pre old m : List Value} (hb : W.heap[g]? = some (.cells ⟨pre ++ old⟩ t (0, 0))) (hp : pre.length = off) (hm : old.length = m.length) :
    ∃ w1, W.setCells g off m = w1 ∧ w1.heap[g]? = some (.cells ⟨pre ++ m⟩ t (0, 0)) ∧ W.grownBy w1 (some g) ∧ (∀ (B : Nat) (w0 : World), Below B w0 W → B ≤ g → Below B w0 w1) := by
  refine ⟨_, rfl, ?_, grown_setCells g m off W, fun B w0 hB hg => below_setCells g m off W hB hg⟩
  have := heap_setCells_same g t m off W pre old hp hb (by omega)
  rw [this, List.drop_of_length_le (by omega), List.append_nil]
theorem fold_gen (off : Nat) : ∀ (xs : List Value) (i : Nat) (cs : List Value), off + i + xs.length ≤ cs.length →
    List.foldl (fun (cs : Array Value) (x : Value × Nat) => cs.setIfInBounds (off + x.snd) x.fst) (⟨cs⟩ : Array Value) (xs.zipIdx i) = ⟨cs.take (off + i) ++ xs ++ cs.drop (off + i + xs.length)⟩
  | [], i, cs, h => by simp
  | x :: xs, i, cs, h => by
    rw [List.length_cons] at h
    rw [List.zipIdx_cons, List.foldl_cons]
    have e : (⟨cs⟩ : Array Value).setIfInBounds (off + i) x = ⟨cs.set (off + i) x⟩ := by simp
    show List.foldl _ ((⟨cs⟩ : Array Value).setIfInBounds (off + i) x) _ = _
    rw [e, fold_gen off xs (i + 1) (cs.set (off + i) x) (by rw [List.length_set]; omega)]
    congr 1
    have h1 : (cs.set (off + i) x).take (off + (i + 1)) = cs.take (off + i) ++ [x] := by
      rw [show off + (i + 1) = (off + i) + 1 by omega, List.take_succ_eq_append_getElem (by rw [List.length_set]; omega), List.getElem_set_self, List.take_set_of_le (by omega)]
    have h2 : (cs.set (off + i) x).drop (off + (i + 1) + xs.length) = cs.drop (off + i + (x :: xs).length) := by
      rw [List.drop_set_of_lt (by omega), List.length_cons]
      congr 1
      omega
    rw [h1, h2]
    simp
theorem fold_set (k : IntKind) {n : Nat} (v : Vector Int n) (pre old : List Value) (off : Nat) (hp : pre.length = off) (ho : old.length = n) :
    List.foldl (fun (cs : Array Value) (x : Value × Nat) => cs.setIfInBounds (off + x.snd) x.fst) (⟨pre ++ old⟩ : Array Value) (arL k v).zipIdx = (⟨pre ++ arL k v⟩ : Array Value) := by
  have hl := arL_length k v
  rw [fold_gen off (arL k v) 0 (pre ++ old) (by rw [List.length_append]; omega)]
  congr 1
  rw [List.take_left' (by omega), List.drop_of_length_le (by rw [List.length_append]; omega), List.append_nil]
theorem fold_set0 (k : IntKind) {n : Nat} (v : Vector Int n) (pre old : List Value) (off : Nat) (hp : pre.length = 0) (ho : old.length = n) :
    List.foldl (fun (cs : Array Value) (x : Value × Nat) => cs.setIfInBounds (x.snd) x.fst) (⟨pre ++ old⟩ : Array Value) (arL k v).zipIdx = (⟨pre ++ arL k v⟩ : Array Value) := by
  have := fold_set k v pre old 0 hp ho
  simpa only [Nat.zero_add] using this
end Go.Proofs.YtcghnnhhgngddaaDoor.Arr2
