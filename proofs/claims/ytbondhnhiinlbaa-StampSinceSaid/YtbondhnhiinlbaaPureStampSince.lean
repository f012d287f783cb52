import Derived.Test.YtbondhnhiinlbaaPrx42
import Derived.Test.YtbondhnhiinlbaaPb
import Derived.OpenShut
set_option linter.unusedVariables false
set_option linter.unusedSimpArgs false
namespace Go.Proofs.Ytbondhnhiinlbaa.Pure
open Go.ChangeShapes Go.WideShapes Go.RowKit Go.Proofs.Ytbondhnhiinlbaa.Pr Go.Proofs.YtbondhnhiinlbaaW.PrintWords Go.Proofs.YtbondhnhiinlbaaW.PrintLast Go.Proofs.YtbondhnhiinlbaaW.PrintMore
theorem StampSince : foliotlaw02_StampSince.Pure := by
  intro a d ha hd
  have hA : 0 ≤ a ∧ a < 18446744073709551616 := by have := bounds_u64 ha; omega
  have hD := bounds_i64 hd
  obtain ⟨K, hK⟩ : ∃ K, ∀ k, K ≤ k → foliotlaw02_shown.f k = some true := shown_ev
  refine ⟨K + 2, ?_⟩
  unfold foliotlaw02_StampSince.f
  rw [hK (K + 2) (by omega), Option.bind_some, if_pos rfl]
  by_cases h1 : d > 4611686018427387904
  · rw [if_pos h1]
    simp [foliotlaw02_StampSince.j0]
  · rw [if_neg h1]
    by_cases h2 : d < -4611686018427387904
    · rw [decide_eq_true h2]
      simp [foliotlaw02_StampSince.j0]
    · rw [decide_eq_false h2]
      simp only [foliotlaw02_StampSince.j0, stamp_Plus.f, Option.bind_some]
      rw [if_neg (by decide)]
      obtain ⟨b, hb⟩ : ∃ b, IntKind.u64.wrap (a + IntKind.u64.wrap d) = b := ⟨_, rfl⟩
      rw [hb]
      rw [u64_mod, u64_mod] at hb
      rw [since_cut K b a d (by rw [u64_mod]; unfold wrap64; omega) (by omega) (by omega), Option.bind_some, if_pos rfl,
        since_cut K a b (-d) (by rw [u64_mod]; unfold wrap64; omega) (by omega) (by omega), Option.bind_some, if_pos (by unfold wrap64; omega)]
      congr 1
      refine beq_iff_eq.mpr ?_
      rw [u64_mod, u64_mod]
      unfold wrap64
      omega
end Go.Proofs.Ytbondhnhiinlbaa.Pure
