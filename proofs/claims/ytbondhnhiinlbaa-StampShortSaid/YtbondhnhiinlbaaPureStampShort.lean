import Derived.Test.YtbondhnhiinlbaaPrx46
import Derived.Test.YtbondhnhiinlbaaPb
import Derived.OpenShut
set_option linter.unusedVariables false
set_option linter.unusedSimpArgs false
namespace Go.Proofs.Ytbondhnhiinlbaa.Pure
open Go.ChangeShapes Go.WideShapes Go.RowKit Go.Proofs.Ytbondhnhiinlbaa.Pr Go.Proofs.YtbondhnhiinlbaaW.PrintWords Go.Proofs.YtbondhnhiinlbaaW.PrintLast Go.Proofs.YtbondhnhiinlbaaW.PrintMore
theorem toshort_eq {d : Int} (hD : -9223372036854775808 ≤ d ∧ d ≤ 9223372036854775807) : ∃ s, stamp_ToShort.f d = some s ∧ foliotref02_ToShort.f d = some s ∧ 0 ≤ s ∧ s ≤ 4294967295 ∧ (d ≤ 0 → s = 0) ∧ (0 < d → s = 4294967295 ∨ (d ≤ s * 65536 ∧ s * 65536 < d + 65536)) := by
  unfold stamp_ToShort.f foliotref02_ToShort.f
  by_cases h0 : d ≤ 0
  · rw [if_pos h0, if_pos h0]
    exact ⟨0, rfl, rfl, by decide, by decide, fun _ => rfl, fun h => by omega⟩
  · rw [if_neg h0, if_neg h0]
    have e1 : wrap64 (d / 65536 * 65536) = d / 65536 * 65536 := by unfold wrap64; omega
    have e2 : wrap64 (d / 65536 + 1) = d / 65536 + 1 := by unfold wrap64; omega
    rw [e1, e2]
    by_cases h1 : d > 281474976645120
    · rw [if_pos h1]
      refine ⟨4294967295, rfl, ?_, by decide, by decide, fun h => by omega, fun _ => .inl rfl⟩
      by_cases h2 : d / 65536 * 65536 = d
      · rw [if_pos h2]
        congr 1
        unfold mn
        split <;> omega
      · rw [if_neg h2]
        congr 1
        unfold mn
        split <;> omega
    · rw [if_neg h1]
      have e3 : wrap64 (wrap64 (d + 65536) - 1) = d + 65535 := by unfold wrap64; omega
      rw [e3]
      refine ⟨(d + 65535) / 65536, ?_, ?_, by omega, by omega, fun h => by omega, fun _ => .inr (by omega)⟩
      · congr 1
        omega
      · by_cases h2 : d / 65536 * 65536 = d
        · rw [if_pos h2]
          congr 1
          unfold mn
          split <;> omega
        · rw [if_neg h2]
          congr 1
          unfold mn
          split <;> omega
theorem StampShort : foliotlaw02_StampShort.Pure := by
  intro d n hd hn
  have hD := bounds_i64 hd
  have hN : 0 ≤ n ∧ n ≤ 4294967295 := bounds_u32 hn
  obtain ⟨K, hK⟩ : ∃ K, ∀ k, K ≤ k → foliotlaw02_shown.f k = some true := shown_ev
  refine ⟨K, ?_⟩
  unfold foliotlaw02_StampShort.f
  rw [hK K (Nat.le_refl _), Option.bind_some, if_pos rfl]
  obtain ⟨s, hs1, hs2, hs3, hs4, hs5, hs6⟩ := toshort_eq hD
  have ef : ∀ m : Int, 0 ≤ m → m ≤ 4294967295 → stamp_FromShort.f m = some (m * 65536) := fun m h0 h1 => by
    unfold stamp_FromShort.f
    congr 1
    unfold wrap64
    omega
  have eg : foliotref02_FromShort.f n = some (n * 65536) := ef n hN.1 hN.2
  obtain ⟨u, hu1, hu2, hu3, hu4, hu5, hu6⟩ := toshort_eq (d := n * 65536) (by omega)
  have hun : u = n := by
    by_cases hz : n * 65536 ≤ 0
    · have := hu5 hz
      omega
    · have hx : stamp_ToShort.f (n * 65536) = some n := by
        unfold stamp_ToShort.f
        rw [if_neg hz, if_neg (by omega)]
        congr 1
        unfold wrap64
        omega
      exact Option.some.inj (hu1.symm.trans hx)
  rw [hs1, Option.bind_some, ef s hs3 hs4, Option.bind_some, hs2, Option.bind_some, if_pos rfl, ef n hN.1 hN.2, Option.bind_some, eg, Option.bind_some, if_pos rfl, Option.bind_some, hu1, hun, Option.bind_some, if_pos rfl]
  by_cases h0 : d ≤ 0
  · rw [if_pos h0, if_pos (hs5 h0)]
  · rw [if_neg h0]
    by_cases h1 : s = 4294967295
    · rw [if_pos h1]
    · rw [if_neg h1]
      rcases hs6 (by omega) with h2 | ⟨h2, h3⟩
      · exact absurd h2 h1
      · rw [if_pos h2]
        congr 1
        refine decide_eq_true ?_
        unfold wrap64
        omega
end Go.Proofs.Ytbondhnhiinlbaa.Pure
