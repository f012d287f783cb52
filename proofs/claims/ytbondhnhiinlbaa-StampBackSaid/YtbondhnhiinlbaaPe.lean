/- The calendar, plainly: OfDate and ToDate. -/
import Derived.Test.YtbondhnhiinlbaaPd
set_option linter.unusedVariables false
set_option linter.unusedSimpArgs false
namespace Go.Proofs.Ytbondhnhiinlbaa.Pr
open Go.RowKit Go.Proofs.YtbondhnhiinlbaaW.PrintWords Go.Proofs.YtbondhnhiinlbaaW.PrintLast Go.Proofs.YtbondhnhiinlbaaW.PrintMore
def secs (e a : Int) : Int := e * 4294967296 + a / 4294967296 + 59926608000
def good (e a : Int) : Prop := -16 ≤ e ∧ e ≤ 2 ∧ 0 ≤ secs e a ∧ secs e a / 86400 < 767009
theorem secsOf_eq (e a : Int) (he : -16 ≤ e ∧ e ≤ 2) (ha : 0 ≤ a ∧ a ≤ 18446744073709551615) : secsOf e a = secs e a := by
  unfold secsOf secs
  rw [w_in (n := e * 4294967296) (by omega), w_in (n := a / 4294967296) (by omega), w_in (n := e * 4294967296 + a / 4294967296) (by omega), w_in (by omega)]
theorem B_nonneg (y : Int) (h : 1 ≤ y) : 0 ≤ B y := by
  unfold B
  omega
theorem begins2101 : stamp_begins.f 2101 = some 767009 := by rw [begins_eq 2101 (by decide), B_2101]
theorem ofdate_bad (e a : Int) (ha : 0 ≤ a ∧ a ≤ 18446744073709551615) (h : ¬ good e a) : stamp_OfDate.f e a = some (0, 0, 0, 0, 0, 0, 0, 20) := by
  unfold stamp_OfDate.f
  by_cases h1 : e < -16 ∨ e > 2
  · rw [if_pos h1]
  · rw [if_neg h1, secsOf_eq e a (by omega) ha]
    have hb : -16 * 4294967296 + 59926608000 ≤ secs e a ∧ secs e a ≤ 3 * 4294967296 + 59926608000 := by unfold secs; omega
    unfold good at h
    unfold ofSecs
    by_cases h2 : secs e a < 0
    · rw [if_pos h2]
    · rw [if_neg h2, begins2101, Option.bind_some, td_eq (by omega), w_in (by omega), if_pos (by omega)]
theorem ofdate_good (e a : Int) (ha : 0 ≤ a ∧ a ≤ 18446744073709551615) (h : good e a) {y D : Int} {j : Nat} (hc : Cal (secs e a / 86400) y j D) :
    stamp_OfDate.f e a = some (y, (j : Int) + 1, D, secs e a / 3600 % 24, secs e a / 60 % 60, secs e a % 60, a % 4294967296, 0) := by
  obtain ⟨h1, h2, h3, h4⟩ := h
  obtain ⟨b1, b2, b3, b4, b5⟩ := hc.bounds
  have hy1 := hc.y1
  have hy2 := hc.y2
  unfold stamp_OfDate.f
  rw [if_neg (by omega), secsOf_eq e a ⟨h1, h2⟩ ha]
  have hb3 : secs e a ≤ 3 * 4294967296 + 59926608000 := by unfold secs; omega
  generalize secs e a = S at hc h3 h4 b1 b2 b3 b4 hb3 ⊢
  have hday : S / 86400 < y * 366 := by
    rw [B_succ y hy1] at b2
    have : B y ≤ (y - 1) * 366 := by unfold B; omega
    have := lp_01 y
    omega
  unfold ofSecs
  rw [if_neg (by omega), begins2101, Option.bind_some, td_eq (n := S) (by omega) 86400, w_in (n := S / 86400) (by omega), if_neg (by omega), td_eq (n := S / 86400) (by omega), w_in (n := S / 86400 / 366) (by omega), w_in (n := S / 86400 / 366 + 1) (by omega),
    yr_eq (S / 86400) y ⟨hy1, hy2⟩ b1 b2 3000 _ (by omega) (by omega) (by omega), Option.bind_some, begins_eq y (by omega), Option.bind_some, leap_eq y (by omega), Option.bind_some]
  have hB : 0 ≤ B y := by
    by_cases e1 : y = 1
    · rw [e1, B_one]; exact Int.le_refl _
    · have := B_mono (show (1 : Int) < y by omega)
      have h0 : (0 : Int) ≤ B (1 + 1) := by decide +kernel
      omega
  unfold civil
  rw [td_eq (n := S) (by omega) 86400, w_in (n := S / 86400) (by omega), w_in (n := S / 86400 - B y) (by omega), w_in (n := S / 86400 - B y + 1) (by omega)]
  have hmo := mo_eq (mtab (lp y)) 0 0 (S / 86400 - B y + 1) j D (mtab_in _ (lp_01 y)) (by rw [mtab_len]; exact Nat.le_refl _) (by rw [mtab_len]; exact hc.j2) hc.d1 hc.d2 (by have := hc.at_; omega)
  rw [hmo, td_eq (n := S) (by omega) 3600, td_eq (n := S) (by omega) 60, w_in (n := S / 3600) (by omega), w_in (n := S / 60) (by omega), tm_eq (by omega), tm_eq (by omega), tm_eq (by omega)]
  simp
def tsecs (day h mi s : Int) : Int := (day - 693595) * 86400 + h * 3600 + mi * 60 + s
theorem date_good {day y D : Int} {j : Nat} (hc : Cal day y j D) (h mi s fr : Int) (hr : 0 ≤ h ∧ h ≤ 23 ∧ 0 ≤ mi ∧ mi ≤ 59 ∧ 0 ≤ s ∧ s ≤ 59) (hf : 0 ≤ fr ∧ fr < 4294967296) :
    stamp_ToDate.f y ((j : Int) + 1) D h mi s fr = some (tsecs day h mi s / 4294967296, tsecs day h mi s % 4294967296 * 4294967296 + fr, 0) := by
  obtain ⟨b1, b2, b3, b4, b5⟩ := hc.bounds
  have hy1 := hc.y1
  have hy2 := hc.y2
  have hj := hc.j2
  have hd1 := hc.d1
  have hd2 := hc.d2
  have hat := hc.at_
  have htk := take_le (lp y) (lp_01 y) j hj
  have hBn := B_nonneg y hy1
  have hbad : badDay y ((j : Int) + 1) D h mi s = false := by
    unfold badDay
    simp only [Bool.or_eq_false_iff, decide_eq_false_iff_not]
    omega
  unfold stamp_ToDate.f
  rw [hbad, if_neg (by decide), leap_eq y (by omega), Option.bind_some, show ((j : Int) + 1 - 1).toNat = j from by omega, if_neg (by omega), begins_eq y (by omega), Option.bind_some, if_pos hf]
  have e1 : wrap64 (wrap64 (wrap64 (B y + D) - 1) - 693595) = B y + D - 1 - 693595 := by
    rw [w_in (n := B y + D) (by omega), w_in (n := B y + D - 1) (by omega), w_in (by omega)]
  have hlen : ((((mtab (lp y)).take j).length : Nat) : Int) ≤ 12 := by rw [List.length_take, mtab_len]; omega
  rw [e1, sumDays_eq _ _ (fun x hx => mtab_in _ (lp_01 y) x (List.mem_of_mem_take hx)) (by omega) (by omega)]
  have e2 : toSecs (B y + D - 1 - 693595 + tsum ((mtab (lp y)).take j)) h mi s = tsecs day h mi s := by
    unfold toSecs tsecs
    rw [show B y + D - 1 - 693595 + tsum ((mtab (lp y)).take j) = day - 693595 from by omega]
    rw [w_in (n := (day - 693595) * 86400) (by omega), w_in (n := h * 3600) (by omega), w_in (n := mi * 60) (by omega), w_in (n := (day - 693595) * 86400 + h * 3600) (by omega), w_in (n := (day - 693595) * 86400 + h * 3600 + mi * 60) (by omega), w_in (by omega)]
  rw [e2]
theorem todate_cases (y m d h mi s fr : Int) (hf : 0 ≤ fr ∧ fr < 4294967296) : stamp_ToDate.f y m d h mi s fr = some (0, 0, 20) ∨ ∃ (day : Int) (j : Nat), m = (j : Int) + 1 ∧ Cal day y j d ∧ 0 ≤ h ∧ h ≤ 23 ∧ 0 ≤ mi ∧ mi ≤ 59 ∧ 0 ≤ s ∧ s ≤ 59 := by
  unfold stamp_ToDate.f
  by_cases hb : badDay y m d h mi s = true
  · rw [if_pos hb]
    exact .inl rfl
  · have hr : 1 ≤ y ∧ y ≤ 2100 ∧ 1 ≤ m ∧ m ≤ 12 ∧ 1 ≤ d ∧ 0 ≤ h ∧ h ≤ 23 ∧ 0 ≤ mi ∧ mi ≤ 59 ∧ 0 ≤ s ∧ s ≤ 59 := by
      unfold badDay at hb
      simp only [Bool.or_eq_true, decide_eq_true_eq] at hb
      omega
    rw [if_neg hb, leap_eq y (by omega), Option.bind_some]
    by_cases hd : d > (mtab (lp y)).getD (m - 1).toNat 0
    · rw [if_pos hd]
      exact .inl rfl
    · exact .inr ⟨B y + tsum ((mtab (lp y)).take (m - 1).toNat) + d - 1, (m - 1).toNat, by omega, ⟨by omega, by omega, by omega, by omega, by omega, rfl⟩, by omega⟩
end Go.Proofs.Ytbondhnhiinlbaa.Pr
