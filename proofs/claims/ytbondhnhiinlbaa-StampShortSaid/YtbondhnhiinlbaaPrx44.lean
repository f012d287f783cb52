-- PRINTED by print.py (a twelfth state) out of the translation. Not trusted: Lean checks it.
import Derived.Test.YtbondhnhiinlbaaPrx0
namespace Go.Proofs.Ytbondhnhiinlbaa.Pr
open Go.RowKit Go.Proofs.YtbondhnhiinlbaaW.PrintWords Go.Proofs.YtbondhnhiinlbaaW.PrintLast Go.Proofs.YtbondhnhiinlbaaW.PrintMore
attribute [local go_sem] max2_int min2_int max_two min_two max_three min_three max_four min_four   -- for this text's walks alone
set_option linter.unusedVariables false
set_option linter.unusedSimpArgs false

/-! ### foliotref02_ToShort: function 29 -/
def foliotref02_ToShort.f (a0 : Int) : Option (Int) := if a0 ≤ 0 then (some 0) else (if (wrap64 ((a0 / 65536) * 65536)) = a0 then (some ((mn (a0 / 65536) 4294967295) % 4294967296)) else (some ((mn (wrap64 ((a0 / 65536) + 1)) 4294967295) % 4294967296)))
set_option maxHeartbeats 8000000 in
set_option maxRecDepth 100000 in
theorem foliotref02_ToShort.calls (a0 : Int) (r : Int) (w : World) (h : foliotref02_ToShort.f a0 = some r) :
    Calls Try.prog 29 #[.int .i64 a0] w fun e w' => e = .returned (.int .u32 r) ∧ Below w.heap.size w w' := by
  have HB := Aside0.mk (Below.refl w.heap.size w)
  have H : (if a0 ≤ 0 then (some 0) else (if (wrap64 ((a0 / 65536) * 65536)) = a0 then (some ((mn (a0 / 65536) 4294967295) % 4294967296)) else (some ((mn (wrap64 ((a0 / 65536) + 1)) 4294967295) % 4294967296)))) = some r := h
  clear h
  by_cases c2 : a0 ≤ 0
  · rw [if_pos c2] at H
    have c2b0 : decide (a0 ≤ 0) = true := decide_eq_true c2
    clear c2
    obtain rfl := Option.some.inj H
    go_enter Try.func29, Try.ntmps29
    go_wp2
    go_ret
    exact ⟨by first | rfl | (simp [errW_none, errW_some] <;> rfl) | (simp [*, errW_none, errW_some] <;> rfl), by repeat (first | (with_reducible first | exact HB.out | apply below_alloc | apply pw_below_drewN | apply below_drew1) | exact HB.out)⟩
  · rw [if_neg c2] at H
    have c2b0 : decide (a0 ≤ 0) = false := decide_eq_false c2
    clear c2
    by_cases c3 : (wrap64 ((a0 / 65536) * 65536)) = a0
    · rw [if_pos c3] at H
      have c3b0 : ((wrap64 ((a0 / 65536) * 65536)) == a0) = true := beq_iff_eq.mpr c3
      have c3b1 : ((wrap64 ((a0 / 65536) * 65536)) != a0) = false := bne_eq_false_iff_eq.mpr c3
      clear c3
      obtain ⟨ji4, hji4⟩ : ∃ j_ : Int, (mn (a0 / 65536) 4294967295) = j_ := ⟨_, rfl⟩
      replace H : (some ((ji4) % 4294967296)) = some r := by first | (rw [hji4] at H; exact H) | (simp only [hji4] at H ⊢; exact H)
      (try (have hji4h : ji4 ≤ 4294967295 := by (rw [← hji4]; unfold mn; (repeat' split) <;> omega)))
      (try (have hji4g : ji4 ≤ 64 := by omega))
      have hji4_ : (if 4294967295 < (a0 / 65536) then 4294967295 else (a0 / 65536)) = ji4 := hji4
      obtain rfl := Option.some.inj H
      go_enter Try.func29, Try.ntmps29
      go_wp2
      go_ret
      exact ⟨by first | rfl | (simp [errW_none, errW_some] <;> rfl) | (simp only [← hji4]; first | rfl | (simp [errW_none, errW_some] <;> rfl)) | (simp [*, errW_none, errW_some] <;> rfl), by repeat (first | (with_reducible first | exact HB.out | apply below_alloc | apply pw_below_drewN | apply below_drew1) | exact HB.out)⟩
    · rw [if_neg c3] at H
      have c3b0 : ((wrap64 ((a0 / 65536) * 65536)) == a0) = false := beq_eq_false_iff_ne.mpr c3
      have c3b1 : ((wrap64 ((a0 / 65536) * 65536)) != a0) = true := bne_iff_ne.mpr c3
      obtain ⟨ji5, hji5⟩ : ∃ j_ : Int, (mn (wrap64 ((a0 / 65536) + 1)) 4294967295) = j_ := ⟨_, rfl⟩
      replace H : (some ((ji5) % 4294967296)) = some r := by first | (rw [hji5] at H; exact H) | (simp only [hji5] at H ⊢; exact H)
      (try (have hji5h : ji5 ≤ 4294967295 := by (rw [← hji5]; unfold mn; (repeat' split) <;> omega)))
      (try (have hji5g : ji5 ≤ 64 := by omega))
      have hji5_ : (if 4294967295 < (wrap64 ((a0 / 65536) + 1)) then 4294967295 else (wrap64 ((a0 / 65536) + 1))) = ji5 := hji5
      obtain rfl := Option.some.inj H
      go_enter Try.func29, Try.ntmps29
      go_wp2
      go_ret
      exact ⟨by first | rfl | (simp [errW_none, errW_some] <;> rfl) | (simp only [← hji5]; first | rfl | (simp [errW_none, errW_some] <;> rfl)) | (simp [*, errW_none, errW_some] <;> rfl), by repeat (first | (with_reducible first | exact HB.out | apply below_alloc | apply pw_below_drewN | apply below_drew1) | exact HB.out)⟩

end Go.Proofs.Ytbondhnhiinlbaa.Pr
