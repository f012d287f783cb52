/- The machine's call of the reference's ToDate: it gives back what the program's does. -/
import Derived.Test.YtbondhnhiinlbaaTHe1
import Derived.Test.YtbondhnhiinlbaaTK1
set_option linter.unusedVariables false
set_option linter.unusedSimpArgs false
namespace Go.Proofs.Ytbondhnhiinlbaa.Pr
open Go.RowKit Go.Proofs.YtbondhnhiinlbaaW.PrintWords Go.Proofs.YtbondhnhiinlbaaW.PrintLast Go.Proofs.YtbondhnhiinlbaaW.PrintMore
theorem foliotref02_ToDate.calls (a0_0 a0_1 a0_2 a0_3 a0_4 a0_5 a0_6 : Int) (r1 : Int) (r2 : Int) (r3 : Int) (w : World) (h : foliotref02_ToDate.f a0_0 a0_1 a0_2 a0_3 a0_4 a0_5 a0_6 = some (r1, r2, r3)) :
    Calls Try.prog 18 #[.agg #[.int .i64 a0_0, .int .i64 a0_1, .int .i64 a0_2, .int .i64 a0_3, .int .i64 a0_4, .int .i64 a0_5, .int .u32 a0_6]] w fun e w' => e = .returned (.tuple #[.agg #[.int .i64 r1, .int .u64 r2], .int .i64 r3]) ∧ Below w.heap.size w w' := by
  have h0 : stamp_ToDate.f a0_0 a0_1 a0_2 a0_3 a0_4 a0_5 a0_6 = some (r1, r2, r3) := h
  clear h
  have h := h0
  unfold stamp_ToDate.f at h
  by_cases hbad : badDay a0_0 a0_1 a0_2 a0_3 a0_4 a0_5 = true
  · rw [if_pos hbad] at h
    simp only [Option.some.injEq, Prod.mk.injEq] at h
    obtain ⟨rfl, rfl, rfl⟩ := h
    have hm : ¬ (a0_0 < 1 ∨ a0_0 > 2100 ∨ a0_1 < 1 ∨ a0_1 > 12 ∨ a0_2 < 1) → foliotref02_month.f 1 a0_0 a0_1 = some ((mtab (lp a0_0)).getD (a0_1 - 1).toNat 0) := fun hn => by
      have e := month_eq 0 a0_0 (by omega) (a0_1 - 1).toNat (by omega)
      rw [show (((a0_1 - 1).toNat : Nat) : Int) + 1 = a0_1 from by omega] at e
      exact e
    exact reftodate_bad _ _ _ _ _ _ _ _ 1 w hm (.inl hbad)
  · rw [if_neg hbad] at h
    have hr := badDay_false hbad
    obtain ⟨j, rfl⟩ : ∃ j : Nat, a0_1 = (j : Int) + 1 := ⟨(a0_1 - 1).toNat, by omega⟩
    rw [show ((j : Int) + 1 - 1).toNat = j from by omega, leap_eq a0_0 (by omega), Option.bind_some] at h
    by_cases hd : a0_2 > (mtab (lp a0_0)).getD j 0
    · rw [if_pos hd] at h
      simp only [Option.some.injEq, Prod.mk.injEq] at h
      obtain ⟨rfl, rfl, rfl⟩ := h
      exact reftodate_bad _ _ _ _ _ _ _ _ 1 w (fun _ => month_eq 0 a0_0 (by omega) j (by omega)) (.inr hd)
    · rw [if_neg hd, begins_eq a0_0 (by omega), Option.bind_some] at h
      by_cases hf : 0 ≤ a0_6 ∧ a0_6 < 4294967296
      · clear h
        have hc : Cal (B a0_0 + tsum ((mtab (lp a0_0)).take j) + a0_2 - 1) a0_0 j a0_2 := ⟨by omega, by omega, by omega, by omega, by omega, rfl⟩
        rw [date_good hc _ _ _ _ (by omega) hf] at h0
        simp only [Option.some.injEq, Prod.mk.injEq] at h0
        obtain ⟨rfl, rfl, rfl⟩ := h0
        have hn : (mtab (lp a0_0))[j]? = some ((mtab (lp a0_0)).getD j 0) := by
          have hl : j < (mtab (lp a0_0)).length := by rw [mtab_len]; omega
          rw [List.getD_eq_getElem?_getD, List.getElem?_eq_getElem hl]
          rfl
        have hb := hc.bounds
        have hbn := B_nonneg a0_0 (by omega)
        have htk := take_le (lp a0_0) (lp_01 a0_0) j (by omega)
        have hlen : ((((mtab (lp a0_0)).take j).length : Nat) : Int) ≤ 12 := by rw [List.length_take, mtab_len]; omega
        have hS : toSecs (sumDays ((mtab (lp a0_0)).take j) (wrap64 (wrap64 (wrap64 (B a0_0 - 693595) + a0_2) - 1))) a0_3 a0_4 a0_5 = tsecs (B a0_0 + tsum ((mtab (lp a0_0)).take j) + a0_2 - 1) a0_3 a0_4 a0_5 := by
          rw [w_in (n := B a0_0 - 693595) (by omega), w_in (n := B a0_0 - 693595 + a0_2) (by omega), w_in (n := B a0_0 - 693595 + a0_2 - 1) (by omega), sumDays_eq _ _ (fun x hx => mtab_in _ (lp_01 a0_0) x (List.mem_of_mem_take hx)) (by omega) (by omega)]
          unfold toSecs tsecs
          obtain ⟨day, hday⟩ : ∃ day, day = B a0_0 + tsum ((mtab (lp a0_0)).take j) + a0_2 - 1 := ⟨_, rfl⟩
          rw [← hday, show B a0_0 - 693595 + a0_2 - 1 + tsum ((mtab (lp a0_0)).take j) = day - 693595 from by omega]
          rw [w_in (n := (day - 693595) * 86400) (by omega), w_in (n := a0_3 * 3600) (by omega), w_in (n := a0_4 * 60) (by omega), w_in (n := (day - 693595) * 86400 + a0_3 * 3600) (by omega), w_in (n := (day - 693595) * 86400 + a0_3 * 3600 + a0_4 * 60) (by omega), w_in (by omega)]
        have hs1 : -15 * 4294967296 ≤ tsecs (B a0_0 + tsum ((mtab (lp a0_0)).take j) + a0_2 - 1) a0_3 a0_4 a0_5 := by unfold tsecs; omega
        have hs2 : tsecs (B a0_0 + tsum ((mtab (lp a0_0)).take j) + a0_2 - 1) a0_3 a0_4 a0_5 < 3 * 4294967296 := by unfold tsecs; omega
        refine reftodate_good j a0_0 a0_2 a0_3 a0_4 a0_5 a0_6 3001 w (lp a0_0) _ (B a0_0) _ (by omega) (first_eq a0_0 (by omega) 3001 (by decide)) (by rw [first_eq 1900 (by decide) 3001 (by decide)]; decide +kernel) ?_ hn hS hs1 hs2 hf ?_ ?_ ?_ ?_ ?_ ?_ ?_ ?_ ?_ ?_ ?_ ?_
        · intro i m hi hm
          have e := month_eq 3000 a0_0 (by omega) i hi
          rw [List.getD_eq_getElem?_getD, hm] at e
          exact e
        all_goals exact decide_eq_false (by omega)
      · rw [if_neg hf] at h
        exact absurd h (by simp)
end Go.Proofs.Ytbondhnhiinlbaa.Pr
