import Derived.Test.YtbondhnhiinlbaaPrx41
import Derived.Test.YtbondhnhiinlbaaPb
import Derived.OpenShut
set_option linter.unusedVariables false
namespace Go.Proofs.Ytbondhnhiinlbaa.Pure
open Go.ChangeShapes Go.WideShapes Go.RowKit Go.Proofs.Ytbondhnhiinlbaa.Pr Go.Proofs.YtbondhnhiinlbaaW.PrintWords Go.Proofs.YtbondhnhiinlbaaW.PrintLast Go.Proofs.YtbondhnhiinlbaaW.PrintMore
theorem StampSpans : foliotlaw02_StampSpans.Pure := by
  intro a b d ha hb hd
  have e : Ev (fun k => foliotlaw02_StampSpans.f k a b d) true := by
    obtain ⟨K, hK⟩ : ∃ K, ∀ k, K ≤ k → foliotlaw02_shown.f k = some true := shown_ev
    refine ⟨K + 1, fun k hk => ?_⟩
    obtain ⟨m, rfl⟩ : ∃ m, k = m + 1 := ⟨k - 1, by omega⟩
    simp only [foliotlaw02_StampSpans.f]
    rw [hK (m + 1) (by omega), Option.bind_some, if_pos rfl, since_eq, refsince_eq]
    simp only [Option.bind_some]
    rw [if_pos trivial]
    simp [stamp_Plus.f, foliotref02_Plus.f]
  obtain ⟨K, hK⟩ := e
  exact ⟨K, hK K (Nat.le_refl _)⟩
end Go.Proofs.Ytbondhnhiinlbaa.Pure
