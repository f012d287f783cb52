/- The program's dates are the reference's. -/
import Derived.Test.YtbondhnhiinlbaaZK1
import Derived.Test.YtbondhnhiinlbaaZK3
import Derived.Test.YtbondhnhiinlbaaZSd
import Derived.OpenShut
set_option linter.unusedVariables false
set_option linter.unusedSimpArgs false
namespace Go.Proofs.Ytbondhnhiinlbaa.Pr
open Go.ChangeShapes Go.WideShapes Go.RowKit Go.Proofs.YtbondhnhiinlbaaW.PrintWords Go.Proofs.YtbondhnhiinlbaaW.PrintLast Go.Proofs.YtbondhnhiinlbaaW.PrintMore
theorem ofdate_some (e a : Int) (hA : 0 ≤ a ∧ a ≤ 18446744073709551615) : ∃ r, stamp_OfDate.f e a = some r := by
  by_cases hg' : good e a
  · obtain ⟨y2, j2, D2, hc'⟩ := Cal.exists (day := secs e a / 86400) (by have := hg'.2.2.1; omega) hg'.2.2.2
    exact ⟨_, ofdate_good e a hA hg' hc'⟩
  · exact ⟨_, ofdate_bad e a hA hg'⟩
theorem todate_some (y m d h mi s fr : Int) (hf : 0 ≤ fr ∧ fr < 4294967296) : ∃ r, stamp_ToDate.f y m d h mi s fr = some r := by
  rcases todate_cases y m d h mi s fr hf with h1 | ⟨day, j, rfl, hc, hr⟩
  · exact ⟨_, h1⟩
  · exact ⟨_, date_good hc h mi s fr hr hf⟩
theorem pure_StampDates (e a y m d h mi s fr : Int) (he : (Lit.int .i64 e).wf = true) (ha : (Lit.int .u64 a).wf = true) (hy : (Lit.int .i64 y).wf = true) (hm : (Lit.int .i64 m).wf = true) (hd : (Lit.int .i64 d).wf = true) (hh : (Lit.int .i64 h).wf = true) (hmi : (Lit.int .i64 mi).wf = true) (hs : (Lit.int .i64 s).wf = true) (hfr : (Lit.int .u32 fr).wf = true) (w : World) :
    Calls Try.prog 3 #[.agg #[.int .i64 e, .int .u64 a], .agg #[.int .i64 y, .int .i64 m, .int .i64 d, .int .i64 h, .int .i64 mi, .int .i64 s, .int .u32 fr]] w fun e w' => e = .returned (.bool true) ∧ Below w.heap.size w w' := by
  have hA := bounds_u64 ha
  have hF := bounds_u32 hfr
  obtain ⟨K, hK⟩ : ∃ K, ∀ k, K ≤ k → foliotlaw02_shown.f k = some true := shown_ev
  obtain ⟨⟨t1, t2, t3, t4, t5, t6, t7, t8⟩, hr⟩ := ofdate_some e a hA
  obtain ⟨⟨u1, u2, u3⟩, ht⟩ := todate_some y m d h mi s fr (by omega)
  exact SDates_calls (K + 6000) e a y m d h mi s fr t1 t2 t3 t4 t5 t6 t7 t8 u1 u2 u3 w ⟨hK _ (by omega)⟩ ⟨hr⟩ ⟨rfl⟩ ⟨(refof_eq e a hA _ (by omega)).trans hr⟩ ⟨ht⟩ ⟨ht⟩ ⟨rfl⟩
end Go.Proofs.Ytbondhnhiinlbaa.Pr
