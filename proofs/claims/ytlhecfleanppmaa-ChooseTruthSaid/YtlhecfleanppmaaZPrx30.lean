/- Printed walks, packed. -/
import Derived.Test.YtlhecfleanppmaaZK0
namespace Go.Proofs.Ytlhecfleanppmaa.Pr
open Go.RowKit Go.Proofs.YtlhecfleanppmaaW.PrintWords Go.Proofs.YtlhecfleanppmaaW.PrintLast Go.Proofs.YtlhecfleanppmaaW.PrintMore
attribute [local go_sem] max2_int min2_int max_two min_two max_three min_three max_four min_four   -- for this text's walks alone
set_option linter.unusedVariables false
set_option linter.unusedSimpArgs false

/-! ### foliotlaw13_far: function 24 -/
def foliotlaw13_far.f (a0 : Int) (a1 : Int) (a2 : Int) : Option (Bool) := if (wrap64 (a0 - a1)) > a2 then (some true) else (some (decide ((wrap64 (a1 - a0)) > a2)))
set_option maxHeartbeats 8000000 in
set_option maxRecDepth 100000 in
theorem foliotlaw13_far.calls (a0 : Int) (a1 : Int) (a2 : Int) (r : Bool) (w : World) (h : foliotlaw13_far.f a0 a1 a2 = some r) :
    Calls Try.prog 24 #[.int .i64 a0, .int .i64 a1, .int .i64 a2] w fun e w' => e = .returned (.bool r) ∧ Drawn0 w w' := by
  have H : (if (wrap64 (a0 - a1)) > a2 then (some true) else (some (decide ((wrap64 (a1 - a0)) > a2)))) = some r := h
  clear h
  by_cases c4 : (wrap64 (a0 - a1)) > a2
  · rw [if_pos c4] at H
    have c4b0 : decide (a2 < (wrap64 (a0 - a1))) = true := decide_eq_true c4
    clear c4
    obtain rfl := Option.some.inj H
    go_enter Try.func24, Try.ntmps24
    go_wp2
    go_ret
    exact ⟨by first | rfl | (simp; done) | (simp [*]; done), by repeat (first | exact Drawn0.refl _ | apply Drawn0.step)⟩
  · rw [if_neg c4] at H
    have c4b0 : decide (a2 < (wrap64 (a0 - a1))) = false := decide_eq_false c4
    clear c4
    obtain rfl := Option.some.inj H
    go_enter Try.func24, Try.ntmps24
    go_wp2
    go_ret
    exact ⟨by first | rfl | (simp; done) | (simp [*]; done), by repeat (first | exact Drawn0.refl _ | apply Drawn0.step)⟩

end Go.Proofs.Ytlhecfleanppmaa.Pr
