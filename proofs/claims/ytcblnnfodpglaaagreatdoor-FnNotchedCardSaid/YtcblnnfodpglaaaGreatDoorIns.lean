/- Words for this claim: 'copy' between rows of records, and what it leaves; for slices.Insert. General: no program in sight. -/
import Derived.Test.YtcblnnfodpglaaaGreatDoorVNotchedArr
import Derived.Test.YtcblnnfodpglaaaGreatDoorVNotchedWZeros
import Derived.Lib.Overlaps
import Derived.Lib.AppendZeros
import Derived.Laws.Externs
import Derived.Laws.IdiomCopy
import Derived.Shelf.RegionOpenPlain
namespace Go.Proofs.YtcblnnfodpglaaaGreatDoor.Ins
open Go Go.RowKit Go.Proofs.YtcblnnfodpglaaaGreatDoor.Arr Go.Proofs.YtcblnnfodpglaaaGreatDoorW.PrintWords
set_option linter.unusedVariables false
set_option linter.unusedSimpArgs false
section
variable {P : Program}
/-- copy(d, s), rows of records of sz cells: all is read before anything is written. -/
theorem copyN_run (w : World) (dT sT ty elem : TypeId) (sz b o dLen dCap : Nat) (a : Addr) (sLen sCap m : Nat) (cs : List Value)
    (hu : P.underlying dT = some (.slice elem)) (hs : (P.info? elem).map (·.size) = some sz) (hm : m = Nat.min sLen dLen) (hn : cs.length = m * sz)
    (hsrc : ∀ j v, cs[j]? = some v → w.cell? (a.add j) = some v) (hc : ∀ j, j < cs.length → (w.cell? ⟨b, o + j, none⟩).isSome = true) (hf : ∀ j, j < cs.length → w.frozen? ⟨b, o + j, none⟩ = false) (h1 : ∀ v ∈ cs, v.oneCell' = true) :
    (Builtin.copy_ #[dT, sT] ty #[.slice (some ⟨b, o, none⟩) dLen dCap, .slice (some a) sLen sCap]).run P w = .ok (goInt m) (w.setCells b o cs) := by
  have hl := run_loadCells_list (P := P) w a cs hsrc
  have hst := run_storeCells_cells (P := P) b o cs 0 w (by simpa using hc) (by simpa using hf) h1
  cases hq : P.info? elem with
  | none => simp [hq] at hs
  | some i =>
    have hi : i.size = sz := by simpa [hq] using hs
    rw [hn] at hl
    simp [Builtin.copy_, run_underlying hu, Builtin.lenOf, Builtin.firstCells, sizeOf, typeInfo, hq, hi, ← hm, hl, hst]
theorem wp_copyN (w : World) {o : Oper} {a : Act} {K : Act → World → Prop} {Q : Exit → Act → World → Prop} (d s : Operand) (t t' : TypeId)
    (ho : o.op = .call { callee := .builtin .copy, args := #[d, s], argTypes := #[t, t'] }) (v u : Value) (hd : a.eval d = v) (hs : a.eval s = u) {v' : Value} {w' : World}
    (hr : (Builtin.copy_ #[t, t'] o.type #[v, u]).run P w = .ok v' w') (h : K (a.put o.dst v') w') : o.wp P a w K Q := by
  unfold Oper.wp execOp
  simp only [ho, resolve, invoke, builtin, Sem.run_bind, Sem.run_pure, Result.andThen_ok, List.map_toArray, List.map_cons, List.map_nil, hd, hs, hr]
  exact h
theorem wpList_copyN (w : World) {ops : Array Oper} {rest : List Oper} {o : Oper} {a : Act} {Q : Exit → Act → World → Prop} (hgd : o.guard = none) (d s : Operand) (t t' : TypeId)
    (ho : o.op = .call { callee := .builtin .copy, args := #[d, s], argTypes := #[t, t'] }) (v u : Value) (hd : a.eval d = v) (hs : a.eval s = u) {v' : Value} {w' : World}
    (hr : (Builtin.copy_ #[t, t'] o.type #[v, u]).run P w = .ok v' w') (h : wpList P ops Q rest (a.put o.dst v') w') : wpList P ops Q (o :: rest) a w :=
  wpList_plain hgd fun _ hK => wp_copyN w d s t t' ho v u hd hs hr (hK _ _ h)
theorem step_copyN {ops : Array Oper} {o : Oper} {a : Act} {w : World} {K : Act → World → Prop} {Q : Exit → Act → World → Prop} {E : Prop}
    (hg : o.guard = none) (d x : Operand) (dT sT : TypeId) (hop : o.op = Op.call { callee := Callee.builtin Builtin.copy, args := #[d, x], argTypes := #[dT, sT] })
    (v u : Value) (hd : a.eval d = v) (hx : a.eval x = u) {v' : Value} {w' : World} (hr : (Builtin.copy_ #[dT, sT] o.type #[v, u]).run P w = .ok v' w') (hK : K (a.put o.dst v') w') :
    if Region.wanted o (yielded ops a.tmps) = true then Oper.wp P o a w K Q else E := by
  have hw : Region.wanted o (yielded ops a.tmps) = true := by simp [Region.wanted, hg]
  rw [if_pos hw]
  exact wp_copyN w d x dT sT hop v u hd hx hr hK
/-- append(s[:i], make([]T, k)...) where there is no room: a new row. -/
theorem append_make_new (w : World) (t ti ty e : TypeId) (i : TypeInfo) (z : Value) (ht : P.underlying t = some (.slice e)) {kn : IntKind} (hti : P.underlying ti = some (.int kn)) (hi : P.info? e = some i) (hz : i.zero = some z) (hzs : z.cells.size = i.size) (hs0 : 0 < i.size) (hb0 : 0 < i.bytes)
    (A : Addr) (n cap : Nat) (kx : IntKind) (m : Nat) (xs : List Value) (hx : xs.length = n * i.size) (hc : ∀ j u, xs[j]? = some u → w.cell? (A.add j) = some u) (hcap : cap < n + m) (hm0 : 0 < m) (hbytes : (n + m) * i.bytes ≤ 140737488355328) :
    (Builtin.append_ #[t, ti] ty #[.slice (some A) n cap, .int kx m]).run P w =
      .ok (.slice (some ⟨w.heap.size, 0, none⟩) (n + m) (grownCap w (n + m) cap e)) (w.drew.alloc (.cells (xs.toArray ++ (Builtin.zeroCells z.cells m).toList.toArray ++ Builtin.zeroCells z.cells (grownCap w (n + m) cap e - (n + m))) e)) := by
  have hfo : (Builtin.firstCells i.size n (.slice (some A) n cap)).run P w.drew = .ok xs.toArray w.drew := run_firstCells_some (P := P) w.drew i.size n _ n cap xs hx (by simpa using hc)
  have hle : n + m ≤ 140737488355328 := Nat.le_trans (Nat.le_mul_of_pos_right _ hb0) hbytes
  have hw : IntKind.i64.wrap (m : Int) = m := by rw [IntKind.wrap_i64]; omega
  have hw0 : IntKind.i64.wrap 0 = 0 := by rw [IntKind.wrap_i64]; rfl
  have hneg : ¬ ((m : Int) < 0) := by omega
  have hmb : m * i.bytes ≤ 140737488355328 := Nat.le_trans (Nat.mul_le_mul_right _ (Nat.le_add_left m n)) hbytes
  have hbig : ¬ (281474976710656 < (m : Int) * (i.bytes : Int)) := by
    rw [← Int.natCast_mul]
    omega
  have hn : ¬ (n + m ≤ cap) := by omega
  have h63' : ¬ (9223372036854775807 < ((n : Int) + (m : Int))) := by omega
  have hfit := growslice_fits hcap hbytes
  have h48' : ¬ (281474976710656 < Builtin.nextslicecap (n + m) cap * i.bytes) := by omega
  have hmz : ¬ (m * i.size = 0) := Nat.mul_ne_zero (by omega) (by omega)
  simp [Builtin.append_, run_underlying ht, run_underlying hti, sizeOf, typeInfo, zeroValue, hi, hz, asInt, asIntOf, hw, hneg, hbig, hn, h63', h48', Question.forced, hfo, newRow, grownCap, hmz]
end
/-- A row's cells behind a store of some of them. -/
theorem row_set {w : World} {g : Nat} {cur : Array Value} {t : TypeId} (hb : w.heap[g]? = some (.cells cur t (0, 0))) (o : Nat) (vs : List Value) (hf : o + vs.length ≤ cur.size) :
    ∃ cur', (w.setCells g o vs).heap[g]? = some (.cells cur' t (0, 0)) ∧ cur'.size = cur.size ∧ cur'.toList = cur.toList.take o ++ vs ++ cur.toList.drop (o + vs.length) := by
  have hsz : cur.size = cur.toList.length := by simp
  have hb' : w.heap[g]? = some (.cells ⟨cur.toList.take o ++ cur.toList.drop o⟩ t (0, 0)) := by rw [List.take_append_drop]; exact hb
  have := heap_setCells_same g t vs o w (cur.toList.take o) (cur.toList.drop o) (by rw [List.length_take]; omega) hb' (by rw [List.length_drop]; omega)
  rw [List.drop_drop] at this
  refine ⟨_, this, ?_, by simp⟩
  simp
  omega
theorem cell_in {w : World} {g : Nat} {cur : Array Value} {t : TypeId} (hb : w.heap[g]? = some (.cells cur t (0, 0))) (k : Nat) : w.cell? ⟨g, k, none⟩ = cur[k]? := by
  obtain ⟨l⟩ := cur
  rw [blk_cell hb]
/-! records told by their cells -/
theorem reps_cells {α : Type} {R : α → List Value → Prop} {size : Nat} {enc : α → List Value} (hR : ∀ p c, R p c → c = enc p) : ∀ (ps : List α) (cs : List Value), Reps R size ps cs → cs = ps.flatMap enc
  | [], cs, h => by
    have := h.1
    simp at this
    simpa using this
  | p :: ps, cs, h => by
    have h1 := h.1
    rw [List.length_cons, Nat.add_mul, Nat.one_mul] at h1
    have h0 := hR p _ (h.2 0 p rfl)
    rw [Nat.zero_mul, List.drop_zero] at h0
    have ht : Reps R size ps (cs.drop size) := ⟨by rw [List.length_drop]; omega, fun j q hj => by
      have := h.2 (j + 1) q (by simpa using hj)
      rwa [show (j + 1) * size = size + j * size by rw [Nat.add_mul]; omega, ← List.drop_drop] at this⟩
    have := reps_cells hR ps _ ht
    rw [List.flatMap_cons, ← h0, ← this, List.take_append_drop]
theorem flat_len {α : Type} {size : Nat} {enc : α → List Value} (hl : ∀ p, (enc p).length = size) : ∀ ps : List α, (ps.flatMap enc).length = ps.length * size
  | [] => by simp
  | p :: ps => by rw [List.flatMap_cons, List.length_append, hl, flat_len hl ps, List.length_cons, Nat.add_mul]; omega
theorem cells_reps {α : Type} {R : α → List Value → Prop} {size : Nat} {enc : α → List Value} (hl : ∀ p, (enc p).length = size) (hR : ∀ p, R p (enc p)) : ∀ (ps : List α), Reps R size ps (ps.flatMap enc)
  | [] => by simpa using Reps.none R size
  | p :: ps => by
    have ih := cells_reps hl hR ps
    refine ⟨flat_len hl _, fun j q hj => ?_⟩
    cases j with
    | zero =>
      have : p = q := by simpa using hj
      subst this
      rw [Nat.zero_mul, List.drop_zero, List.flatMap_cons, List.take_left' (hl p)]
      exact hR p
    | succ j =>
      have := ih.2 j q (by simpa using hj)
      rwa [show (j + 1) * size = size + j * size by rw [Nat.add_mul]; omega, ← List.drop_drop, List.flatMap_cons, List.drop_left' (hl p)]
theorem flat_take {α : Type} {size : Nat} {enc : α → List Value} (hl : ∀ p, (enc p).length = size) (ps : List α) (i : Nat) (hi : i ≤ ps.length) : (ps.flatMap enc).take (i * size) = (ps.take i).flatMap enc := by
  conv => lhs; rw [← List.take_append_drop i ps, List.flatMap_append]
  exact List.take_left' (by rw [flat_len hl, List.length_take, Nat.min_eq_left hi])
theorem flat_drop {α : Type} {size : Nat} {enc : α → List Value} (hl : ∀ p, (enc p).length = size) (ps : List α) (i : Nat) (hi : i ≤ ps.length) : (ps.flatMap enc).drop (i * size) = (ps.drop i).flatMap enc := by
  conv => lhs; rw [← List.take_append_drop i ps, List.flatMap_append]
  exact List.drop_left' (by rw [flat_len hl, List.length_take, Nat.min_eq_left hi])
/-- what is left in a row where a tail has been shifted and records put in -/
theorem shifted (cur cs vs : List Value) (i n q : Nat) (hcs : cur.take n = cs) (hn : cs.length = n) (hi : i ≤ n) (hv : vs.length = q) (c1 c2 : List Value)
    (h1 : c1 = cur.take (i + q) ++ cs.drop i ++ cur.drop (i + q + (n - i))) (h2 : c2 = c1.take i ++ vs ++ c1.drop (i + q)) (hl : n + q ≤ cur.length) : c2.take (n + q) = cs.take i ++ vs ++ cs.drop i := by
  have hd : (cs.drop i).length = n - i := by rw [List.length_drop]; omega
  have t1 : c1.take i = cs.take i := by
    rw [h1, List.append_assoc, List.take_append_of_le_length (by rw [List.length_take]; omega), List.take_take, Nat.min_eq_left (by omega), ← hcs, List.take_take, Nat.min_eq_left (by omega)]
  have t2 : c1.drop (i + q) = cs.drop i ++ cur.drop (i + q + (n - i)) := by
    rw [h1, List.append_assoc, List.drop_left' (by rw [List.length_take]; omega)]
  rw [h2, t1, t2]
  rw [show cs.take i ++ vs ++ (cs.drop i ++ cur.drop (i + q + (n - i))) = (cs.take i ++ vs ++ cs.drop i) ++ cur.drop (i + q + (n - i)) by simp]
  exact List.take_left' (by simp; omega)
theorem filled (old vs tl : List Value) (cs : List Value) (i n q : Nat) (hn : cs.length = n) (hi : i ≤ n) (hv : vs.length = q) (ho : old.take i = cs.take i) (hl : n + q ≤ old.length) (c1 c2 : List Value)
    (h1 : c1 = old.take i ++ vs ++ old.drop (i + q)) (h2 : c2 = c1.take (i + q) ++ cs.drop i ++ c1.drop (i + q + (n - i))) : c2.take (n + q) = cs.take i ++ vs ++ cs.drop i := by
  have hd : (cs.drop i).length = n - i := by rw [List.length_drop]; omega
  have t1 : c1.take (i + q) = cs.take i ++ vs := by
    rw [h1, ho]
    exact List.take_left' (by simp; omega)
  rw [h2, t1]
  exact List.take_left' (by simp; omega)
end Go.Proofs.YtcblnnfodpglaaaGreatDoor.Ins
