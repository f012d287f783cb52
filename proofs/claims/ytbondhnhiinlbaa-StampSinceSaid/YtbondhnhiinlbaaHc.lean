/- The machine's call of stamp.ToDate. Printed by gen_hc_stamp.py. -/
import Derived.Test.YtbondhnhiinlbaaHc0
import Derived.Test.YtbondhnhiinlbaaHc1
set_option linter.unusedVariables false
set_option linter.unusedSimpArgs false
namespace Go.Proofs.Ytbondhnhiinlbaa.Pr
open Go.RowKit Go.Proofs.YtbondhnhiinlbaaW.PrintWords Go.Proofs.YtbondhnhiinlbaaW.PrintLast Go.Proofs.YtbondhnhiinlbaaW.PrintMore
theorem badDay_false {y m d h mi s : Int} (hb : ¬ badDay y m d h mi s = true) : 1 ≤ y ∧ y ≤ 2100 ∧ 1 ≤ m ∧ m ≤ 12 ∧ 1 ≤ d ∧ 0 ≤ h ∧ h ≤ 23 ∧ 0 ≤ mi ∧ mi ≤ 59 ∧ 0 ≤ s ∧ s ≤ 59 := by
  unfold badDay at hb
  simp only [Bool.or_eq_true, decide_eq_true_eq] at hb
  omega
theorem stamp_ToDate.calls (a0_0 a0_1 a0_2 a0_3 a0_4 a0_5 a0_6 : Int) (r1 : Int) (r2 : Int) (r3 : Int) (w : World) (h : stamp_ToDate.f a0_0 a0_1 a0_2 a0_3 a0_4 a0_5 a0_6 = some (r1, r2, r3)) :
    Calls Try.prog 17 #[.agg #[.int .i64 a0_0, .int .i64 a0_1, .int .i64 a0_2, .int .i64 a0_3, .int .i64 a0_4, .int .i64 a0_5, .int .u32 a0_6]] w fun e w' => e = .returned (.tuple #[.agg #[.int .i64 r1, .int .u64 r2], .int .i64 r3]) ∧ Below w.heap.size w w' := by
  unfold stamp_ToDate.f at h
  by_cases hbad : badDay a0_0 a0_1 a0_2 a0_3 a0_4 a0_5 = true
  · rw [if_pos hbad] at h
    simp only [Option.some.injEq, Prod.mk.injEq] at h
    obtain ⟨rfl, rfl, rfl⟩ := h
    exact todate_bad _ _ _ _ _ _ _ w hbad
  · rw [if_neg hbad] at h
    have hr := badDay_false hbad
    obtain ⟨j, rfl⟩ : ∃ j : Nat, a0_1 = (j : Int) + 1 := ⟨(a0_1 - 1).toNat, by omega⟩
    rw [show ((j : Int) + 1 - 1).toNat = j from by omega] at h
    rw [Option.bind_eq_some_iff] at h
    obtain ⟨t, ht, h⟩ := h
    have hj : j < 12 := by omega
    obtain ⟨n, hn⟩ : ∃ n, (mtab t)[j]? = some n := ⟨_, List.getElem?_eq_getElem (by simpa [mtab] using hj)⟩
    have hg : (mtab t).getD j 0 = n := by rw [List.getD_eq_getElem?_getD, hn]; rfl
    rw [hg] at h
    have hbg : ∃ b, stamp_begins.f a0_0 = some b := ⟨_, rfl⟩
    obtain ⟨b, hb⟩ := hbg
    by_cases hfr : 0 ≤ a0_6 ∧ a0_6 < 4294967296
    · rw [hb] at h
      simp only [Option.bind_some] at h
      rw [if_pos hfr] at h
      refine todate_good j a0_0 a0_2 a0_3 a0_4 a0_5 a0_6 r1 r2 r3 w hj t n b _ ht hn hb rfl (fun _ => hfr) h ?_ ?_ ?_ ?_ ?_ ?_ ?_ ?_ ?_ ?_ ?_ <;> exact decide_eq_false (by omega)
    · by_cases hd : a0_2 > n
      · rw [if_pos hd] at h
        refine todate_good j a0_0 a0_2 a0_3 a0_4 a0_5 a0_6 r1 r2 r3 w hj t n b _ ht hn hb rfl (fun hn => absurd hd hn) (by rw [if_pos hd]; exact h) ?_ ?_ ?_ ?_ ?_ ?_ ?_ ?_ ?_ ?_ ?_ <;> exact decide_eq_false (by omega)
      · rw [hb, if_neg hd] at h
        simp only [Option.bind_some] at h
        rw [if_neg hfr] at h
        exact absurd h (by simp)
end Go.Proofs.Ytbondhnhiinlbaa.Pr
