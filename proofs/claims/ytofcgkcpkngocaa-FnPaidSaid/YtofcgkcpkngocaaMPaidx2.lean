-- by a program of this session, for this claim
import Derived.Test.YtofcgkcpkngocaaMPaidx0
namespace Go.Proofs.Ytofcgkcpkngocaa.MPaid
open Go.RowKit Go.Proofs.YtofcgkcpkngocaaW.PrintWords Go.Proofs.YtofcgkcpkngocaaW.PrintLast Go.Proofs.YtofcgkcpkngocaaW.PrintMore
attribute [local go_sem] max2_int min2_int max_two min_two max_three min_three max_four min_four   -- for this text's walks alone
set_option linter.unusedVariables false
set_option linter.unusedSimpArgs false

/-! ### spec_l00In: function 72 -/
def spec_l00In.f (a0 : Int) (a1 : Int) (a2 : Int) : Option (Bool) := if a0 ≥ a1 then (some (decide (a0 ≤ a2))) else (some false)
set_option maxHeartbeats 8000000 in
set_option maxRecDepth 100000 in
theorem spec_l00In.calls (a0 : Int) (a1 : Int) (a2 : Int) (r : Bool) (w : World) (h : spec_l00In.f a0 a1 a2 = some r) :
    Calls Try.prog 72 #[.int .i64 a0, .int .i64 a1, .int .i64 a2] w fun e w' => e = .returned (.bool r) ∧ Drawn0 w w' := by
  have H : (if a0 ≥ a1 then (some (decide (a0 ≤ a2))) else (some false)) = some r := h; clear h; by_cases c4 : a0 ≥ a1
  · rw [if_pos c4] at H; have c4b0 : decide (a1 ≤ a0) = true := decide_eq_true c4; clear c4; obtain rfl := Option.some.inj H; go_enter Try.func72, Try.ntmps72; go_wp2; go_ret; exact ⟨z5_, z24_⟩
  · rw [if_neg c4] at H; have c4b0 : decide (a1 ≤ a0) = false := decide_eq_false c4; clear c4; obtain rfl := Option.some.inj H; go_enter Try.func72, Try.ntmps72; go_wp2; go_ret; exact ⟨z5_, z24_⟩

/-! ### spec_l02Person: function 66 -/
def spec_l02Person.f (a0 : Int) (a1 : Int) : Option (Bool) := (spec_l00In.f a1 0 (wrap64 (a0 - 1))).bind fun t101 => (some t101)
set_option maxHeartbeats 8000000 in
set_option maxRecDepth 100000 in
theorem spec_l02Person.calls (a0 : Int) (a1 : Int) (r : Bool) (w : World) (h : spec_l02Person.f a0 a1 = some r) :
    Calls Try.prog 66 #[.int .i64 a0, .int .i64 a1] w fun e w' => e = .returned (.bool r) ∧ Drawn0 w w' := by
  have H : ((spec_l00In.f a1 0 (wrap64 (a0 - 1))).bind fun t101 => (some t101)) = some r := h; clear h; replace H := Option.bind_eq_some_iff.mp H; obtain ⟨t101, A30, H⟩ := H; replace H : (some t101) = some r := H; have A3 := Aside0.mk A30; clear A30; obtain rfl := Option.some.inj H; go_enter Try.func66, Try.ntmps66; go_wp2_with (first | ((with_reducible refine gate_callee (f := 72) rfl ?_); refine goesL_ (some 8) rfl rfl Try.func72 z4_ rfl #[.int .i64 a1, .int .i64 0, .int .i64 (wrap64 (a0 - 1))] rfl z2_ ?_; (with_reducible refine (spec_l00In.calls a1 0 (wrap64 (a0 - 1)) t101 _ A3.out).mono ?_); rintro e w' ⟨rfl, ⟨nd, rfl⟩⟩; refine ⟨_, rfl, ?_⟩)); go_ret; exact ⟨z5_, z24_⟩

end Go.Proofs.Ytofcgkcpkngocaa.MPaid
