/- Amounts and grains that are drawn from bytes. -/
import Derived.Test.YtcblnnfodpglaaaMSticksx0
import Derived.Test.YtcblnnfodpglaaaMSticksx7
import Derived.Test.YtcblnnfodpglaaaMSticksx8
import Derived.Test.YtcblnnfodpglaaaVSticksEv
import Derived.Test.YtcblnnfodpglaaaPuGrainSticks
import Derived.Test.YtcblnnfodpglaaaPuDrawSticks
namespace Go.Proofs.Ytcblnnfodpglaaa.PuDrawASticks
open Go.RowKit Go.Proofs.Ytcblnnfodpglaaa.MSticks Go.Proofs.YtcblnnfodpglaaaW.PrintWords Go.Proofs.YtcblnnfodpglaaaW.PrintLast Go.Proofs.Ytcblnnfodpglaaa.Evs Go.Proofs.Ytcblnnfodpglaaa.PuGrainSticks Go.Proofs.Ytcblnnfodpglaaa.PuDrawSticks
set_option linter.unusedVariables false
set_option linter.unusedSimpArgs false

theorem amount_drawn {c : List Int} (h : byteL c) : ∃ x, spec_A2Amount.f c = some x ∧ 0 ≤ x ∧ x < 6000 := by
  unfold spec_A2Amount.f spec_l00From.f
  simp only [Option.bind_some]
  obtain ⟨x, i2, s2, e, h0, h1, _⟩ := pick2_f h 0 0 6000 (by omega) (by omega) (by omega)
  rw [e]
  exact ⟨x, rfl, h0, h1⟩
theorem gf_ok : ∀ (n i : Nat) (s : Int) (g : G), i + n = 16 → (∀ q, q < i → -3 ≤ gv g q ∧ gv g q ≤ 3) → ∀ q, q < 16 → -3 ≤ gv (gf n i s g).1 q ∧ gv (gf n i s g).1 q ≤ 3
  | 0, i, s, g, h, hI, q, hq => hI q (by omega)
  | n + 1, i, s, g, h, hI, q, hq => by
    show -3 ≤ gv (gf n (i + 1) (next s) (Arr.vst g (i : Int) (((next s / 65536) % 7) - 3))).1 q ∧ _
    refine gf_ok n (i + 1) _ _ (by omega) ?_ q hq
    intro p hp
    rw [gv_set g i p _ (by omega)]
    by_cases e : p = i
    · rw [if_pos e]; omega
    · rw [if_neg e]; exact hI p (by omega)
theorem grain_drawn {c : List Int} (h : byteL c) : ∃ g, Ev (fun k => spec_A2Grain.f k c) g ∧ okG g = true := by
  unfold spec_A2Grain.f spec_l00From.f
  simp only [Option.bind_some]
  obtain ⟨x, i2, s2, e, h0, h1, _⟩ := pick2_f h 0 0 1048576 (by omega) (by omega) (by omega)
  refine ⟨(gf 16 0 (x % 4294967296) zeroG).1, ?_, (okG_iff _).2 (gf_ok 16 0 _ _ (by omega) (fun q hq => by omega))⟩
  exact ev_bind0 e (Ev.bind (GrainFromS_ev _) (Ev.now _))
end Go.Proofs.Ytcblnnfodpglaaa.PuDrawASticks
