/- Words for this claim: arrays of whole numbers as vectors, and arguments laid open. General: no program in sight. -/
import Derived.Test.YtgmciklleapocaaWMore
import Derived.Test.YtgmciklleapocaaWWords
import Derived.Deep.Slices
import Derived.OpenShut
import Derived.ChangeArms
import Derived.WideShapes
import Derived.Below
namespace Go.Proofs.Ytgmciklleapocaa.Arr
open Go.RowKit Go.WideShapes Go.Proofs.YtgmciklleapocaaW.PrintWords
set_option linter.unusedVariables false
set_option linter.unusedSimpArgs false

def arL (k : IntKind) {n : Nat} (v : Vector Int n) : List Value := v.toList.map (Value.int k)
def ArrWf (k : IntKind) {n : Nat} (v : Vector Int n) : Prop := ∀ i : Nat, i < n → (Lit.int k (v.toList.getD i 0)).wf = true

theorem arL_length (k : IntKind) {n : Nat} (v : Vector Int n) : (arL k v).length = n := by simp [arL]

theorem ints_of_cells (k : IntKind) : ∀ (cs : List Value), (∀ i, i < cs.length → ∃ z, cs[i]? = some (.int k z) ∧ (Lit.int k z).wf = true) → ∃ l : List Int, cs = l.map (Value.int k) ∧ ∀ z ∈ l, (Lit.int k z).wf = true
  | [], _ => ⟨[], rfl, by simp⟩
  | c :: cs, h => by
    obtain ⟨z, hz, hw⟩ := h 0 (by simp)
    obtain ⟨l, rfl, hl⟩ := ints_of_cells k cs (fun i hi => by simpa using h (i + 1) (by simpa using hi))
    simp at hz
    subst hz
    exact ⟨z :: l, rfl, by simpa using ⟨hw, hl⟩⟩

section
variable {H : Type} {enc : TypeId × Value → H} {P : Program} {w : World} {base : Nat} {spare : Nat → Bool} {held : Bool} {fuel : Nat} {t : TypeId} {cs : List Value} {x : DataW H × List MemPlace}

theorem trod_ints {k : IntKind} {n : Nat} {e : TypeId} (ht : P.underlying t = some (.array n e)) (he : P.underlying e = some (.int k)) (h1 : P.cellsOf e = 1) (hN : P.cellsOf t = n) (h : DataW.trod enc P w base spare held fuel t cs = some x) :
    ∃ v : Vector Int n, cs = arL k v ∧ ArrWf k v := by
  obtain ⟨xs, m, _, _, hl, hlen, hf⟩ := DataW.trod_array ht h
  rw [hN] at hl
  obtain ⟨l, rfl, hw⟩ := ints_of_cells k cs (fun i hi => by
    have g := hf i (by omega)
    rw [h1, Nat.mul_one, List.getElem?_eq_getElem (by omega)] at g
    obtain ⟨z, hz, _, hw⟩ := DataW.trod_int he g
    refine ⟨z, ?_, hw⟩
    have := congrArg (fun q : List Value => q[0]?) hz
    simpa using this)
  have hl' : l.length = n := by simpa using hl
  refine ⟨⟨l.toArray, by simpa using hl'⟩, ?_, ?_⟩
  · simp [arL, Vector.toList]
  · intro i hi
    simp only [Vector.toList]
    rw [List.getD_eq_getElem?_getD, List.getElem?_eq_getElem (by simpa using by omega)]
    exact hw _ (List.getElem_mem _)

theorem trod_row {α : Type} (K : Kd α) {e : TypeId} {ok : α → Prop} (ht : P.underlying t = some (.slice e)) (hC : P.cellsOf e = K.sz)
    (hel : ∀ (n : Nat) (cs : List Value) (y : DataW H × List MemPlace), DataW.trod enc P w base spare held n e cs = some y → ∃ a, K.K w a cs ∧ ok a)
    (h : DataW.trod enc P w base spare held fuel t cs = some x) :
    ∃ (A : Option Addr) (n c : Nat) (l : List α), cs = [.slice A n c] ∧ l.length = n ∧ n ≤ c ∧ c ≤ maxLen ∧ Kd.C K w A n l ∧ ∀ z ∈ l, ok z := by
  rcases Go.Deep.open_slice ht h with ⟨rfl, _⟩ | ⟨a, len, cap, m, n, D, Pl, rfl, _, hle, hcap, hm, _, hi⟩
  · exact ⟨none, 0, 0, [], rfl, rfl, Nat.le_refl _, by simp [maxLen], ⟨rfl, by omega, fun h => absurd h (by omega)⟩, by simp⟩
  · have hlm : len ≤ m := by rw [hm]; split <;> omega
    have hall : ∀ i : Nat, ∃ (z : Option α), i < len → ∃ y cs', z = some y ∧ K.K w y cs' ∧ ok y ∧ w.cells? base (a.add (i * P.cellsOf e)) (P.cellsOf e) = some cs' := by
      intro i
      by_cases hlt : i < len
      · obtain ⟨cs', hc, htr⟩ := hi i (by omega)
        obtain ⟨y, hk, ho⟩ := hel _ _ _ htr
        exact ⟨some y, fun _ => ⟨y, cs', rfl, hk, ho, hc⟩⟩
      · exact ⟨none, fun h => absurd h hlt⟩
    obtain ⟨f, hf⟩ := Classical.axiomOfChoice hall
    have hd : ∀ i, i < len → (f i).isSome := fun i hlt => by obtain ⟨y, _, e, _⟩ := hf i hlt; rw [e]; rfl
    let g : (i : Fin len) → α := fun i => (f i).get (hd i i.2)
    refine ⟨some a, len, cap, List.ofFn g, rfl, by simp, hle, hcap, ⟨by simp, by unfold maxLen at hcap; omega, fun _ => ⟨a, rfl, ?_⟩⟩, ?_⟩
    · intro j p hj
      rw [List.getElem?_ofFn] at hj
      split at hj
      · next hlt =>
        obtain ⟨y, cs', e1, hk, _, hc⟩ := hf j hlt
        have hp : p = y := by simp only [Option.some.injEq] at hj; rw [← hj]; simp [g, e1]
        subst hp
        obtain ⟨_, hcl, hat⟩ := World.cells?_some hc
        rw [hC] at hcl hat
        refine ⟨cs', K.K_len hk, hk, fun i u hu => ?_⟩
        have hlt2 : i < cs'.length := (List.getElem?_eq_some_iff.1 hu).1
        have := hat i (by rw [K.K_len hk] at hlt2; exact hlt2)
        rw [Go.Deep.add_add] at this
        rw [this, hu]
      · cases hj
    · intro z hz
      rw [List.mem_ofFn] at hz
      obtain ⟨i, rfl⟩ := hz
      obtain ⟨y, cs', e1, hk, ho, hc⟩ := hf i i.2
      simpa [g, e1] using ho
end

theorem okWide_array {P : Program} {w : World} {r : Reach} {base : Nat} {t : TypeId} {v : Value} {n : Nat} {e : TypeId} (ht : P.underlying t = some (.array n e)) (h : Value.okWide P w r base t v) : ∃ cs, v = .agg cs ∧ cs.size = P.cellsOf t := by
  simp only [Value.okWide, ht] at h
  obtain ⟨cs, h1, h2, _⟩ := h
  exact ⟨cs, h1, h2⟩

theorem chunk (cs : List Value) (o s : Nat) : cs.drop o = (cs.drop o).take s ++ cs.drop (o + s) := by
  rw [← List.drop_drop]
  exact (List.take_append_drop s (cs.drop o)).symm
theorem pieces1 (cs : List Value) (a : Nat) (h : cs.length = a) : cs = (cs.drop 0).take a := by
  simp [List.take_of_length_le (Nat.le_of_eq h)]
theorem pieces2 (cs : List Value) (a b : Nat) (h : cs.length = a + b) : cs = (cs.drop 0).take a ++ (cs.drop a).take b := by
  have h1 := chunk cs 0 a
  have h2 := chunk cs a b
  rw [List.drop_of_length_le (show cs.length ≤ a + b by omega), List.append_nil] at h2
  rw [Nat.zero_add, h2] at h1
  simpa using h1
theorem pieces3 (cs : List Value) (a b c : Nat) (h : cs.length = a + b + c) : cs = (cs.drop 0).take a ++ ((cs.drop a).take b ++ (cs.drop (a + b)).take c) := by
  have h1 := chunk cs 0 a
  have h2 := chunk cs a b
  have h3 := chunk cs (a + b) c
  rw [List.drop_of_length_le (show cs.length ≤ a + b + c by omega), List.append_nil] at h3
  rw [h3] at h2
  rw [Nat.zero_add, h2] at h1
  simpa using h1
theorem pieces4 (cs : List Value) (a b c d : Nat) (h : cs.length = a + b + c + d) : cs = (cs.drop 0).take a ++ ((cs.drop a).take b ++ ((cs.drop (a + b)).take c ++ (cs.drop (a + b + c)).take d)) := by
  have h1 := chunk cs 0 a
  have h2 := chunk cs a b
  have h3 := chunk cs (a + b) c
  have h4 := chunk cs (a + b + c) d
  rw [List.drop_of_length_le (show cs.length ≤ a + b + c + d by omega), List.append_nil] at h4
  rw [h4] at h3
  rw [h3] at h2
  rw [Nat.zero_add, h2] at h1
  simpa using h1

theorem below_of_drawn {W W' : World} (h : Drawn0 W W') : Below W.heap.size W W' := by
  obtain ⟨n, rfl⟩ := h
  exact pw_below_drewN (Below.refl _ _) n
end Go.Proofs.Ytgmciklleapocaa.Arr
