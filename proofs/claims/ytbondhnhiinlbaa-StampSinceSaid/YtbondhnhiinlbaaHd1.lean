/- What stamp.number's digits are. -/
import Derived.Test.YtbondhnhiinlbaaDf
set_option linter.unusedVariables false
set_option linter.unusedSimpArgs false
namespace Go.Proofs.Ytbondhnhiinlbaa.Pr
open Go.RowKit Go.Proofs.YtbondhnhiinlbaaW.PrintWords Go.Proofs.YtbondhnhiinlbaaW.PrintLast Go.Proofs.YtbondhnhiinlbaaW.PrintMore
theorem digs_bound (s : ByteArray) : ∀ (k i : Nat) (n m : Int), digs s k i n = some m → 0 ≤ n → 0 ≤ m ∧ m < (n + 1) * 10 ^ k
  | 0, i, n, m, h, h0 => by
    rw [digs] at h
    obtain rfl := Option.some.inj h
    rw [Int.pow_zero]
    omega
  | k + 1, i, n, m, h, h0 => by
    rw [digs] at h
    by_cases hi : i < s.size
    · rw [dif_pos hi] at h
      by_cases hc : 48 ≤ s[i].toNat ∧ s[i].toNat ≤ 57
      · rw [if_pos hc] at h
        obtain ⟨h1, h2⟩ := digs_bound s k (i + 1) _ m h (by omega)
        refine ⟨h1, Int.lt_of_lt_of_le h2 ?_⟩
        rw [Int.pow_succ, Int.mul_comm (10 ^ k) 10, ← Int.mul_assoc]
        refine Int.mul_le_mul_of_nonneg_right (by omega) ?_
        exact Int.le_of_lt (Int.pow_pos (by decide))
      · rw [if_neg hc] at h
        exact absurd h (by simp)
    · rw [dif_neg hi] at h
      exact absurd h (by simp)
theorem number_some {s : ByteArray} {many sign : Nat} {p : Int × ByteArray} (h : number s many sign = some p) : digs s many 0 0 = some p.1 := by
  unfold number at h
  rw [Option.bind_eq_some_iff] at h
  obtain ⟨n, hn, h⟩ := h
  by_cases hs : sign = 0
  · rw [if_pos hs] at h
    by_cases hl : s.size = many
    · rw [if_pos hl] at h
      rw [← Option.some.inj h]
      exact hn
    · rw [if_neg hl] at h
      exact absurd h (by simp)
  · rw [if_neg hs] at h
    by_cases hl : many < s.size
    · rw [dif_pos hl] at h
      by_cases hc : s[many].toNat = sign
      · rw [if_pos hc] at h
        rw [← Option.some.inj h]
        exact hn
      · rw [if_neg hc] at h
        exact absurd h (by simp)
    · rw [dif_neg hl] at h
      exact absurd h (by simp)
theorem number_bound {s : ByteArray} {many sign : Nat} {p : Int × ByteArray} (h : number s many sign = some p) (hm : many ≤ 6) : 0 ≤ p.1 ∧ p.1 < 1000000 := by
  obtain ⟨h1, h2⟩ := digs_bound s many 0 0 p.1 (number_some h) (Int.le_refl 0)
  refine ⟨h1, Int.lt_of_lt_of_le h2 ?_⟩
  rcases (show many = 0 ∨ many = 1 ∨ many = 2 ∨ many = 3 ∨ many = 4 ∨ many = 5 ∨ many = 6 from by omega) with rfl | rfl | rfl | rfl | rfl | rfl | rfl <;> decide
end Go.Proofs.Ytbondhnhiinlbaa.Pr
