/- What Unfold tells, plainly. -/
import Derived.Test.YtbondhnhiinlbaaPb
import Derived.Test.YtbondhnhiinlbaaPrx47
set_option linter.unusedVariables false
set_option linter.unusedSimpArgs false
namespace Go.Proofs.Ytbondhnhiinlbaa.Pr
open Go.ChangeShapes Go.WideShapes Go.RowKit Go.Proofs.YtbondhnhiinlbaaW.PrintWords Go.Proofs.YtbondhnhiinlbaaW.PrintLast Go.Proofs.YtbondhnhiinlbaaW.PrintMore
theorem shown_at : ∃ K, ∀ k, K ≤ k → foliotlaw02_shown.f k = some true := shown_ev
/-- the era that Unfold finds -/
def eraOf (t e p : Int) : Int := if t < p ∧ p - t > 9223372036854775808 then wrap64 (e + 1) else if p < t ∧ t - p ≥ 9223372036854775808 then wrap64 (e - 1) else e
theorem unfold_eq (k : Nat) (t e p : Int) (ht : 0 ≤ t ∧ t ≤ 18446744073709551615) (hp : 0 ≤ p ∧ p ≤ 18446744073709551615) : stamp_Unfold.f (k + 1) t e p = some (eraOf t e p, t) := by
  obtain ⟨d, hd⟩ : ∃ d, wrap64 (IntKind.u64.wrap (t - p)) = d := ⟨_, rfl⟩
  have hd2 := hd
  rw [u64_mod] at hd2
  unfold wrap64 at hd2
  unfold stamp_Unfold.f eraOf
  rw [hd]
  by_cases h0 : d ≥ 0
  · rw [if_pos h0]
    by_cases h1 : t < p
    · rw [decide_eq_true h1]
      simp only [stamp_Unfold.j0]
      first | rw [if_pos rfl] | rw [if_pos trivial]
      by_cases h2 : p - t > 9223372036854775808
      · rw [if_pos ⟨h1, h2⟩]
      · exact absurd h0 (by omega)
    · rw [decide_eq_false h1]
      simp only [stamp_Unfold.j0]
      rw [if_neg (by decide), if_neg (by omega), if_neg (by omega), if_neg (by omega)]
  · rw [if_neg h0]
    simp only [stamp_Unfold.j0]
    rw [if_neg (by decide), if_pos (by omega)]
    by_cases h1 : t > p
    · rw [if_pos h1, if_neg (by omega), if_pos ⟨h1, by omega⟩]
    · rw [if_neg h1, if_neg (by omega), if_neg (by omega)]
end Go.Proofs.Ytbondhnhiinlbaa.Pr
