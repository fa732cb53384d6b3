/- A law's copies of lists of whole numbers. -/
import Derived.Test.YtcghnnhhgngddaaDoorMZeroGroupsx0
import Derived.Test.YtcghnnhhgngddaaDoorMZeroGroupsx3
import Derived.Test.YtcghnnhhgngddaaDoorEv
namespace Go.Proofs.YtcghnnhhgngddaaDoor.PuToIZeroGroups
open Go.RowKit Go.Proofs.YtcghnnhhgngddaaDoor.MZeroGroups Go.Proofs.YtcghnnhhgngddaaDoorW.PrintWords Go.Proofs.YtcghnnhhgngddaaDoorW.PrintLast Go.Proofs.YtcghnnhhgngddaaDoor.Evs
set_option linter.unusedVariables false
set_option linter.unusedSimpArgs false

theorem toI_ev (l : List Int) (h : l.length ≤ 1048576) : Ev (fun k => laws_toInt64S.f k l) l := by
  unfold laws_toInt64S.f
  refine ev_pos (by omega) (ev_pos (by simpa using by omega) ?_)
  have key2 : ∀ i : Nat, i ≤ l.length → Ev (fun k => laws_toInt64S.l0 k l ((l.take i).map id ++ List.replicate (l.length - i) 0) (i : Int)) l := by
    intro i hi
    obtain ⟨d, hd⟩ : ∃ d, l.length - i = d := ⟨_, rfl⟩
    induction d generalizing i with
    | zero =>
      have : i = l.length := by omega
      subst this
      refine Ev.step (f := fun _ => some l) (fun k => ?_) (Ev.now _)
      simp only [laws_toInt64S.l0]
      rw [if_neg (by omega)]
      simp
    | succ d ih =>
      have hlt : i < l.length := by omega
      have h2 := ih (i + 1) (by omega) (by omega)
      refine Ev.step (fun k => ?_) h2
      simp only [laws_toInt64S.l0]
      rw [if_pos (by omega), if_pos (by omega), if_pos (by simp; omega), wrap_up hlt (by omega)]
      rw [show ((i : Int)).toNat = i from Int.toNat_natCast i]
      have hs := set_front id l 0 i hlt
      rw [show rd l (i : Int) = id l[i] from getD_lt l _ i hlt, hs]
      rfl
  simpa using key2 0 (by omega)
end Go.Proofs.YtcghnnhhgngddaaDoor.PuToIZeroGroups
