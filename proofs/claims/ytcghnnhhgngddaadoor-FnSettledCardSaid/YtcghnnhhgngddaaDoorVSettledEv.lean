-- by a program of this session, for this claim: words that the printed texts use, cut down to what is named
import Derived.Test.YtcghnnhhgngddaaDoorVSettledWMore
import Derived.Test.YtcghnnhhgngddaaDoorVSettledWWords
import Derived.Test.YtcghnnhhgngddaaDoorVSettledWLast
namespace Go.Proofs.YtcghnnhhgngddaaDoor.Evs
open Go.RowKit Go.Proofs.YtcghnnhhgngddaaDoorW.PrintWords Go.Proofs.YtcghnnhhgngddaaDoorW.PrintLast
set_option linter.unusedVariables false
set_option linter.unusedSimpArgs false
theorem ev_bind0 {α β : Type} {A : Option α} {a : α} {f : Nat → α → Option β} {r : β} (h : A = some a) (k : Ev (fun n => f n a) r) : Ev (fun n => A.bind (f n)) r := by
  subst h; exact k
theorem ev_pos {α : Type} {c : Prop} [Decidable c] {f g : Nat → Option α} {r : α} (h : c) (k : Ev f r) : Ev (fun n => if c then f n else g n) r := by
  simpa only [if_pos h] using k
theorem ev_neg {α : Type} {c : Prop} [Decidable c] {f g : Nat → Option α} {r : α} (h : ¬ c) (k : Ev g r) : Ev (fun n => if c then f n else g n) r := by
  simpa only [if_neg h] using k
theorem ev_eq {α : Type} {g : Nat → Option α} {r r' : α} (h : Ev g r) (e : r = r') : Ev g r' := e ▸ h
/-- from index i on, up to n: a round at i comes down to what stands at i + 1. -/
theorem ev_for {σ ρ : Type} {n : Nat} {G : Nat → σ → Int → Option ρ} {F : σ → Nat → ρ}
    (hs : ∀ i : Nat, i < n → (∀ s, Ev (fun k => G k s ((i : Int) + 1)) (F s (i + 1))) → ∀ s, Ev (fun k => G k s (i : Int)) (F s i))
    (he : ∀ s, Ev (fun k => G k s (n : Int)) (F s n)) (i : Nat) (hi : i ≤ n) : ∀ s, Ev (fun k => G k s (i : Int)) (F s i) := by
  obtain ⟨d, hd⟩ : ∃ d, n - i = d := ⟨_, rfl⟩
  induction d generalizing i with
  | zero => have : i = n := by omega
            subst this; exact he
  | succ d ih =>
    refine hs i (by omega) ?_
    have := ih (i + 1) (by omega) (by omega)
    intro s
    have h := this s
    rw [show ((i + 1 : Nat) : Int) = (i : Int) + 1 by omega] at h
    exact h
/-- the same, where the state keeps an invariant -/
theorem ev_forI {σ ρ : Type} {n : Nat} {G : Nat → σ → Int → Option ρ} {F : σ → Nat → ρ} {I : σ → Nat → Prop}
    (hs : ∀ i : Nat, i < n → (∀ s, I s (i + 1) → Ev (fun k => G k s ((i : Int) + 1)) (F s (i + 1))) → ∀ s, I s i → Ev (fun k => G k s (i : Int)) (F s i))
    (he : ∀ s, I s n → Ev (fun k => G k s (n : Int)) (F s n)) (i : Nat) (hi : i ≤ n) : ∀ s, I s i → Ev (fun k => G k s (i : Int)) (F s i) := by
  obtain ⟨d, hd⟩ : ∃ d, n - i = d := ⟨_, rfl⟩
  induction d generalizing i with
  | zero => have : i = n := by omega
            subst this; exact he
  | succ d ih =>
    refine hs i (by omega) ?_
    intro s hI
    have h := ih (i + 1) (by omega) (by omega) s hI
    rw [show ((i + 1 : Nat) : Int) = (i : Int) + 1 by omega] at h
    exact h
theorem wrap_id {x : Int} (h0 : -9223372036854775808 ≤ x) (h1 : x ≤ 9223372036854775807) : wrap64 x = x := by
  unfold wrap64; omega
theorem wrap_up {i n : Nat} (h : i < n) (hn : n ≤ 9223372036854775807) : wrap64 ((i : Int) + 1) = (i : Int) + 1 := wrap_id (by omega) (by omega)
theorem getD_lt {α : Type} (l : List α) (d : α) (i : Nat) (h : i < l.length) : l.getD i d = l[i] := by
  rw [List.getD_eq_getElem?_getD, List.getElem?_eq_getElem h]; rfl
end Go.Proofs.YtcghnnhhgngddaaDoor.Evs
