/- The machine's call of the law's near. -/
import Derived.Test.YtlhecfleanppmaaPrx0
import Derived.Outline
set_option linter.unusedVariables false
set_option linter.unusedSimpArgs false
namespace Go.Proofs.Ytlhecfleanppmaa.Pr
open Go.RowKit Go.Proofs.YtlhecfleanppmaaW.PrintWords Go.Proofs.YtlhecfleanppmaaW.PrintLast Go.Proofs.YtlhecfleanppmaaW.PrintMore
attribute [local go_sem] max2_int min2_int max_two min_two
def foliotlaw13_near.f (a0_0 : Int) (a0_1 : Int) (a0_2 : Int) (a0_3 : Int) (a0_4 : Int) (a0_5 : Bool) (a0_6 : Bool) (a1 : Int) : Option (Int × Int × Int × Int × Int × Bool × Bool) := if (Int.tmod a0_2 1099511627776) < 0 then (if (wrap64 ((Int.tmod a0_1 1099511627776) - a1)) < 0 then (some (a0_0, Int.tmod a0_1 1099511627776, mx (wrap64 (-(Int.tmod a0_2 1099511627776))) (wrap64 (-(wrap64 ((Int.tmod a0_1 1099511627776) - a1)))), a0_3, a0_4, a0_5, a0_6)) else (some (a0_0, Int.tmod a0_1 1099511627776, mx (wrap64 (-(Int.tmod a0_2 1099511627776))) (wrap64 ((Int.tmod a0_1 1099511627776) - a1)), a0_3, a0_4, a0_5, a0_6))) else (if (wrap64 ((Int.tmod a0_1 1099511627776) - a1)) < 0 then (some (a0_0, Int.tmod a0_1 1099511627776, mx (Int.tmod a0_2 1099511627776) (wrap64 (-(wrap64 ((Int.tmod a0_1 1099511627776) - a1)))), a0_3, a0_4, a0_5, a0_6)) else (some (a0_0, Int.tmod a0_1 1099511627776, mx (Int.tmod a0_2 1099511627776) (wrap64 ((Int.tmod a0_1 1099511627776) - a1)), a0_3, a0_4, a0_5, a0_6)))
set_option maxHeartbeats 1000000 in
theorem foliotlaw13_near.calls (a0_0 : Int) (a0_1 : Int) (a0_2 : Int) (a0_3 : Int) (a0_4 : Int) (a0_5 : Bool) (a0_6 : Bool) (a1 : Int) (r1 : Int) (r2 : Int) (r3 : Int) (r4 : Int) (r5 : Int) (r6 : Bool) (r7 : Bool) (w : World) (h : foliotlaw13_near.f a0_0 a0_1 a0_2 a0_3 a0_4 a0_5 a0_6 a1 = some (r1, r2, r3, r4, r5, r6, r7)) :
    Calls Try.prog 16 #[.agg #[.int .i64 a0_0, .int .i64 a0_1, .int .i64 a0_2, .int .i64 a0_3, .int .i64 a0_4, .bool a0_5, .bool a0_6], .int .i64 a1] w fun e w' => e = .returned (.agg #[.int .i64 r1, .int .i64 r2, .int .i64 r3, .int .i64 r4, .int .i64 r5, .bool r6, .bool r7]) ∧ Below w.heap.size w w' := by
  have hu26 := Try.underlying26
  unfold foliotlaw13_near.f at h
  by_cases c1 : (Int.tmod a0_2 1099511627776) < 0
  · rw [if_pos c1] at h
    have d1 := decide_eq_true c1
    by_cases c2 : (wrap64 ((Int.tmod a0_1 1099511627776) - a1)) < 0
    · rw [if_pos c2] at h
      have d2 := decide_eq_true c2
      simp only [Option.some.injEq, Prod.mk.injEq] at h
      obtain ⟨rfl, rfl, rfl, rfl, rfl, rfl, rfl⟩ := h
      clear c1 c2
      go_enter Try.func16, Try.ntmps16
      go_wp2
      all_goals
        first | rw [show mx (wrap64 (-(Int.tmod a0_2 1099511627776))) (wrap64 (-(wrap64 ((Int.tmod a0_1 1099511627776) - a1)))) = (wrap64 (-(wrap64 ((Int.tmod a0_1 1099511627776) - a1)))) from if_pos (by assumption)] | rw [show mx (wrap64 (-(Int.tmod a0_2 1099511627776))) (wrap64 (-(wrap64 ((Int.tmod a0_1 1099511627776) - a1)))) = (wrap64 (-(Int.tmod a0_2 1099511627776))) from if_neg (by omega)]
        exact bodyPost_ret (by simp [results, Try.results16, go_sem]) rfl ⟨rfl, below_alloc (below_alloc (Below.refl _ _) _) _⟩
    · rw [if_neg c2] at h
      have d2 := decide_eq_false c2
      simp only [Option.some.injEq, Prod.mk.injEq] at h
      obtain ⟨rfl, rfl, rfl, rfl, rfl, rfl, rfl⟩ := h
      clear c1 c2
      go_enter Try.func16, Try.ntmps16
      go_wp2
      all_goals
        first | rw [show mx (wrap64 (-(Int.tmod a0_2 1099511627776))) (wrap64 ((Int.tmod a0_1 1099511627776) - a1)) = (wrap64 ((Int.tmod a0_1 1099511627776) - a1)) from if_pos (by assumption)] | rw [show mx (wrap64 (-(Int.tmod a0_2 1099511627776))) (wrap64 ((Int.tmod a0_1 1099511627776) - a1)) = (wrap64 (-(Int.tmod a0_2 1099511627776))) from if_neg (by omega)]
        exact bodyPost_ret (by simp [results, Try.results16, go_sem]) rfl ⟨rfl, below_alloc (below_alloc (Below.refl _ _) _) _⟩
  · rw [if_neg c1] at h
    have d1 := decide_eq_false c1
    by_cases c2 : (wrap64 ((Int.tmod a0_1 1099511627776) - a1)) < 0
    · rw [if_pos c2] at h
      have d2 := decide_eq_true c2
      simp only [Option.some.injEq, Prod.mk.injEq] at h
      obtain ⟨rfl, rfl, rfl, rfl, rfl, rfl, rfl⟩ := h
      clear c1 c2
      go_enter Try.func16, Try.ntmps16
      go_wp2
      all_goals
        first | rw [show mx (Int.tmod a0_2 1099511627776) (wrap64 (-(wrap64 ((Int.tmod a0_1 1099511627776) - a1)))) = (wrap64 (-(wrap64 ((Int.tmod a0_1 1099511627776) - a1)))) from if_pos (by assumption)] | rw [show mx (Int.tmod a0_2 1099511627776) (wrap64 (-(wrap64 ((Int.tmod a0_1 1099511627776) - a1)))) = (Int.tmod a0_2 1099511627776) from if_neg (by omega)]
        exact bodyPost_ret (by simp [results, Try.results16, go_sem]) rfl ⟨rfl, below_alloc (below_alloc (Below.refl _ _) _) _⟩
    · rw [if_neg c2] at h
      have d2 := decide_eq_false c2
      simp only [Option.some.injEq, Prod.mk.injEq] at h
      obtain ⟨rfl, rfl, rfl, rfl, rfl, rfl, rfl⟩ := h
      clear c1 c2
      go_enter Try.func16, Try.ntmps16
      go_wp2
      all_goals
        first | rw [show mx (Int.tmod a0_2 1099511627776) (wrap64 ((Int.tmod a0_1 1099511627776) - a1)) = (wrap64 ((Int.tmod a0_1 1099511627776) - a1)) from if_pos (by assumption)] | rw [show mx (Int.tmod a0_2 1099511627776) (wrap64 ((Int.tmod a0_1 1099511627776) - a1)) = (Int.tmod a0_2 1099511627776) from if_neg (by omega)]
        exact bodyPost_ret (by simp [results, Try.results16, go_sem]) rfl ⟨rfl, below_alloc (below_alloc (Below.refl _ _) _) _⟩
end Go.Proofs.Ytlhecfleanppmaa.Pr
