/- near, told plainly: a candidate whose interval holds the offset. -/
import Derived.Test.YtlhecfleanppmaaPf
import Derived.Test.YtlhecfleanppmaaNr
set_option linter.unusedVariables false
namespace Go.Proofs.Ytlhecfleanppmaa.Pr
open Go.RowKit Go.Proofs.YtlhecfleanppmaaW.PrintWords Go.Proofs.YtlhecfleanppmaaW.PrintLast Go.Proofs.YtlhecfleanppmaaW.PrintMore Go.Proofs.YFl Go.Proofs.Ytlhecfleanppmaa.Rw

/-- an offset, or a distance, that was cut: below 2^40 either way -/
theorem tmod_bounds (a m : Int) (hm : 0 < m) : -m < Int.tmod a m ∧ Int.tmod a m < m := by
  refine ⟨?_, Int.tmod_lt_of_pos _ hm⟩
  have h1 := Int.natAbs_tmod a m
  have h2 : a.natAbs % m.natAbs < m.natAbs := Nat.mod_lt _ (by omega)
  rw [← h1] at h2
  omega
def absI (n : Int) : Int := if n < 0 then -n else n
def nearD (x : S26) (t : Int) : Int := mx (absI (Int.tmod x.f2 1099511627776)) (absI (Int.tmod x.f1 1099511627776 - t))
def nearOf (t : Int) (x : S26) : S26 := ⟨x.f0, Int.tmod x.f1 1099511627776, nearD x t, x.f3, x.f4, x.f5, x.f6⟩
theorem near_eq (x : S26) (t : Int) (ht : -2147483648 ≤ t ∧ t ≤ 2147483647) : foliotlaw13_near.f x.f0 x.f1 x.f2 x.f3 x.f4 x.f5 x.f6 t = some ((nearOf t x).f0, (nearOf t x).f1, (nearOf t x).f2, (nearOf t x).f3, (nearOf t x).f4, (nearOf t x).f5, (nearOf t x).f6) := by
  have b1 := tmod_bounds x.f1 1099511627776 (by omega)
  have b2 := tmod_bounds x.f2 1099511627776 (by omega)
  unfold foliotlaw13_near.f nearOf nearD absI
  rw [wrap_small (n := -Int.tmod x.f2 1099511627776) (by omega), wrap_small (n := Int.tmod x.f1 1099511627776 - t) (by omega), wrap_small (n := -(Int.tmod x.f1 1099511627776 - t)) (by omega)]
  by_cases h1 : Int.tmod x.f2 1099511627776 < 0
  · by_cases h2 : Int.tmod x.f1 1099511627776 - t < 0
    · simp only [h1, h2, if_true]
    · simp only [h1, h2, if_true, if_false]
  · by_cases h2 : Int.tmod x.f1 1099511627776 - t < 0
    · simp only [h1, h2, if_true, if_false]
    · simp only [h1, h2, if_false]
theorem near_bounds (x : S26) (t : Int) (ht : -2147483648 ≤ t ∧ t ≤ 2147483647) : 0 ≤ (nearOf t x).f2 ∧ (nearOf t x).f2 ≤ 1101659111424 ∧ -1099511627776 < (nearOf t x).f1 ∧ (nearOf t x).f1 < 1099511627776 ∧ (nearOf t x).f1 - t ≤ (nearOf t x).f2 ∧ t - (nearOf t x).f1 ≤ (nearOf t x).f2 := by
  have b1 := tmod_bounds x.f1 1099511627776 (by omega)
  have b2 := tmod_bounds x.f2 1099511627776 (by omega)
  simp only [nearOf, nearD]
  unfold mx absI
  split <;> split <;> split <;> omega
theorem near_cnt (x : S26) (t : Int) (ht : -2147483648 ≤ t ∧ t ≤ 2147483647) : cnt (nearOf t x) = true := by
  have := near_bounds x t ht
  unfold cnt
  simp only [Bool.and_eq_true, decide_eq_true_eq]
  omega
theorem thatOf_all {l : List S26} (hl : l.length ≤ 64) (h : ∀ x ∈ l, cnt x = true) : thatOf l = l := by
  rw [thatOf_eq, List.filter_eq_self.2 h, List.take_of_length_le hl]
theorem take_rd (l : List S26) (i : Nat) (h : i < l.length) : l.take (i + 1) = l.take i ++ [rd_T26 l (i : Int)] := by
  rw [List.take_succ_eq_append_getElem h]
  congr 2
  unfold rd_T26
  rw [Int.toNat_natCast, List.getD_eq_getElem?_getD, List.getElem?_eq_getElem h]
  rfl
end Go.Proofs.Ytlhecfleanppmaa.Pr
