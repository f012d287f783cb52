/- A second later. -/
import Derived.Test.YtbondhnhiinlbaaNK0
import Derived.Test.YtbondhnhiinlbaaNK2
import Derived.Test.YtbondhnhiinlbaaNPrx31
import Derived.OpenShut
set_option linter.unusedVariables false
set_option linter.unusedSimpArgs false
namespace Go.Proofs.Ytbondhnhiinlbaa.Pr
open Go.ChangeShapes Go.WideShapes Go.RowKit Go.Proofs.YtbondhnhiinlbaaW.PrintWords Go.Proofs.YtbondhnhiinlbaaW.PrintLast Go.Proofs.YtbondhnhiinlbaaW.PrintMore
theorem next_bad (k : Nat) (y m d h mi s fr y' m' d' h' mi' s' fr' : Int) : foliotlaw02_StampNext.j1 (k + 1) true y m d h mi s fr y' m' d' h' mi' s' fr' = some true := by
  simp [foliotlaw02_StampNext.j1]
theorem next_month (k : Nat) (y D h mi s fr y' m' h' mi' s' fr' : Int) (hy : 0 ≤ y) (j : Nat) (hj : j < 12) :
    foliotlaw02_StampNext.j2 (k + 2) false y ((j : Int) + 1) D h mi s fr y' m' 1 h' mi' s' fr' = foliotlaw02_StampNext.j4 k ((mtab (lp y)).getD j 0) y ((j : Int) + 1) D h mi s fr y' m' 1 h' mi' s' fr' := by
  have e29 : wrap64 29 = 29 := by decide +kernel
  have e28 : wrap64 28 = 28 := by decide +kernel
  rcases (show j = 0 ∨ j = 1 ∨ j = 2 ∨ j = 3 ∨ j = 4 ∨ j = 5 ∨ j = 6 ∨ j = 7 ∨ j = 8 ∨ j = 9 ∨ j = 10 ∨ j = 11 from by omega) with rfl | rfl | rfl | rfl | rfl | rfl | rfl | rfl | rfl | rfl | rfl | rfl
  case inr.inl =>
    simp only [foliotlaw02_StampNext.j2, foliotlaw02_StampNext.j3, mtab]
    unfold lp
    rw [tm_eq hy, tm_eq hy, tm_eq hy]
    by_cases h4 : y % 4 = 0
    · by_cases h1 : y % 100 = 0
      · by_cases h2 : y % 400 = 0
        · simp [h4, h1, h2, e29]
        · simp [h4, h1, h2, e28]
      · simp [h4, h1, e29]
    · simp [h4, e28]
  all_goals simp [foliotlaw02_StampNext.j2, foliotlaw02_StampNext.j3, mtab]
/-- the law's own judgement of two times of day, a second apart -/
theorem next_judge (k : Nat) (S S' fr : Int) (hS : 0 ≤ S) (hS' : S' = S + 1) {y D y' D' : Int} {j j' : Nat} (hc : Cal (S / 86400) y j D) (hc' : Cal (S' / 86400) y' j' D') :
    foliotlaw02_StampNext.j1 (k + 4) false y ((j : Int) + 1) D (S / 3600 % 24) (S / 60 % 60) (S % 60) fr y' ((j' : Int) + 1) D' (S' / 3600 % 24) (S' / 60 % 60) (S' % 60) fr = some true := by
  have e1 : S / 3600 = S / 60 / 60 := by omega
  have e2 : S / 86400 = S / 60 / 60 / 24 := by omega
  have e3 : S' / 3600 = S' / 60 / 60 := by omega
  have e4 : S' / 86400 = S' / 60 / 60 / 24 := by omega
  have hb := hc.bounds
  have hb' := hc'.bounds
  have hj := hc.j2
  have hy1 := hc.y1
  have hy2 := hc.y2
  have hd1 := hc.d1
  rw [foliotlaw02_StampNext.j1, if_neg (by decide), if_pos rfl]
  by_cases a1 : S' % 60 = 0
  · rw [if_pos a1]
    have f1 : S % 60 = 59 := by omega
    by_cases a2 : S' / 60 % 60 = 0
    · rw [if_pos a2]
      have f2 : S / 60 % 60 = 59 := by omega
      by_cases a3 : S' / 3600 % 24 = 0
      · rw [if_pos a3, if_pos f1, if_pos f2]
        have f3 : S / 3600 % 24 = 23 := by omega
        have f4 : S' / 86400 = S / 86400 + 1 := by omega
        rw [f3, show ((23 : Int) != 23) = false from rfl]
        rw [f4] at hc' hb'
        rcases hc.next (by omega) with ⟨g1, g2⟩ | ⟨g1, g2, g3⟩ | ⟨g1, g2, g3⟩
        · obtain ⟨rfl, rfl, rfl⟩ := g2.unique hc'
          rw [foliotlaw02_StampNext.j2, if_neg (by decide), if_neg (by omega), if_pos (by rw [w_in (by omega)]), if_pos rfl]
          simp
        · obtain ⟨rfl, rfl, rfl⟩ := g3.unique hc'
          rw [next_month _ _ _ _ _ _ _ _ _ _ _ _ _ (by omega) j hj, ← g1, foliotlaw02_StampNext.j4, if_pos rfl, if_neg (by omega), if_pos (by rw [w_in (by omega)]; omega)]
          simp
        · obtain ⟨rfl, rfl, rfl⟩ := g3.unique hc'
          subst g2
          rw [next_month _ _ _ _ _ _ _ _ _ _ _ _ _ (by omega) 11 (by decide), ← g1, foliotlaw02_StampNext.j4, if_pos rfl, if_pos (by decide), if_pos (by decide), w_in (by omega)]
          simp
      · have f4 : S' / 86400 = S / 86400 := by omega
        rw [f4] at hc'
        obtain ⟨rfl, rfl, rfl⟩ := hc.unique hc'
        rw [if_neg a3, if_pos f1, if_pos f2, if_pos (by rw [w_in (by omega)]; omega), if_pos rfl, if_pos rfl]
        simp
    · have f4 : S' / 86400 = S / 86400 := by omega
      rw [f4] at hc'
      obtain ⟨rfl, rfl, rfl⟩ := hc.unique hc'
      rw [if_neg a2, if_pos f1, if_pos (by rw [w_in (by omega)]; omega), if_pos (by omega), if_pos rfl, if_pos rfl]
      simp
  · have f4 : S' / 86400 = S / 86400 := by omega
    rw [f4] at hc'
    obtain ⟨rfl, rfl, rfl⟩ := hc.unique hc'
    rw [if_neg a1, if_pos (by rw [w_in (by omega)]; omega), if_pos (by omega), if_pos (by omega), if_pos rfl, if_pos rfl]
    simp
theorem next_j0 (k : Nat) (e a : Int) (hA : 0 ≤ a ∧ a ≤ 18446744073709551615) (e' a' : Int) (hA' : 0 ≤ a' ∧ a' ≤ 18446744073709551615) (hn : secs e' a' = secs e a + 1) (hfr : a' % 4294967296 = a % 4294967296) (y m d h mi s fr x : Int) (ho : stamp_OfDate.f e a = some (y, m, d, h, mi, s, fr, x)) :
    foliotlaw02_StampNext.j0 (k + 5) x y m d h mi s fr e' a' = some true := by
  rw [foliotlaw02_StampNext.j0]
  by_cases hg : good e a
  · have h3 := hg.2.2.1
    obtain ⟨y1, j1, D1, hc⟩ := Cal.exists (day := secs e a / 86400) (by omega) hg.2.2.2
    rw [ofdate_good e a hA hg hc] at ho
    simp only [Option.some.injEq, Prod.mk.injEq] at ho
    obtain ⟨rfl, rfl, rfl, rfl, rfl, rfl, rfl, rfl⟩ := ho
    by_cases hg' : good e' a'
    · obtain ⟨y2, j2, D2, hc'⟩ := Cal.exists (day := secs e' a' / 86400) (by have := hg'.2.2.1; omega) hg'.2.2.2
      rw [ofdate_good e' a' hA' hg' hc', Option.bind_some, if_pos rfl, hfr]
      exact next_judge k (secs e a) (secs e' a') (a % 4294967296) h3 hn hc hc'
    · rw [ofdate_bad e' a' hA' hg', Option.bind_some, if_pos rfl]
      exact next_bad _ _ _ _ _ _ _ _ _ _ _ _ _ _ _
  · rw [ofdate_bad e a hA hg] at ho
    simp only [Option.some.injEq, Prod.mk.injEq] at ho
    obtain ⟨rfl, rfl, rfl, rfl, rfl, rfl, rfl, rfl⟩ := ho
    have hx : ∃ r, stamp_OfDate.f e' a' = some r := by
      by_cases hg' : good e' a'
      · obtain ⟨y2, j2, D2, hc'⟩ := Cal.exists (day := secs e' a' / 86400) (by have := hg'.2.2.1; omega) hg'.2.2.2
        exact ⟨_, ofdate_good e' a' hA' hg' hc'⟩
      · exact ⟨_, ofdate_bad e' a' hA' hg'⟩
    obtain ⟨r, hr⟩ := hx
    rw [hr, Option.bind_some, if_neg (by decide)]
    exact next_bad _ _ _ _ _ _ _ _ _ _ _ _ _ _ _
theorem pure_StampNext (e a : Int) (he : (Lit.int .i64 e).wf = true) (ha : (Lit.int .u64 a).wf = true) : ∃ k, foliotlaw02_StampNext.f k e a = some true := by
  have hA := bounds_u64 ha
  have hE := bounds_i64 he
  obtain ⟨K, hK⟩ : ∃ K, ∀ k, K ≤ k → foliotlaw02_shown.f k = some true := shown_ev
  refine ⟨K + 5, ?_⟩
  unfold foliotlaw02_StampNext.f
  rw [hK (K + 5) (by omega), Option.bind_some, if_pos rfl]
  have hx : ∃ r, stamp_OfDate.f e a = some r := by
    by_cases hg' : good e a
    · obtain ⟨y2, j2, D2, hc'⟩ := Cal.exists (day := secs e a / 86400) (by have := hg'.2.2.1; omega) hg'.2.2.2
      exact ⟨_, ofdate_good e a hA hg' hc'⟩
    · exact ⟨_, ofdate_bad e a hA hg'⟩
  obtain ⟨⟨y, m, d, h, mi, s, fr, x⟩, hr⟩ := hx
  rw [hr, Option.bind_some]
  obtain ⟨a', ha'⟩ : ∃ a', IntKind.u64.wrap (a + 4294967296) = a' := ⟨_, rfl⟩
  rw [ha']
  rw [u64_mod] at ha'
  by_cases hl : a' < a
  · rw [if_pos hl]
    by_cases hm : e = 9223372036854775807
    · -- the era that does not fit: OfDate tells an error, whatever the next one tells
      have hb : ¬ good e a := by unfold good; omega
      rw [ofdate_bad e a hA hb] at hr
      simp only [Option.some.injEq, Prod.mk.injEq] at hr
      obtain ⟨rfl, rfl, rfl, rfl, rfl, rfl, rfl, rfl⟩ := hr
      have hx : ∃ r, stamp_OfDate.f (wrap64 (e + 1)) a' = some r := by
        by_cases hg' : good (wrap64 (e + 1)) a'
        · obtain ⟨y2, j2, D2, hc'⟩ := Cal.exists (day := secs (wrap64 (e + 1)) a' / 86400) (by have := hg'.2.2.1; omega) hg'.2.2.2
          exact ⟨_, ofdate_good _ a' (by omega) hg' hc'⟩
        · exact ⟨_, ofdate_bad _ a' (by omega) hg'⟩
      obtain ⟨r, hr⟩ := hx
      rw [foliotlaw02_StampNext.j0, hr, Option.bind_some, if_neg (by decide)]
      exact next_bad _ _ _ _ _ _ _ _ _ _ _ _ _ _ _
    · rw [w_in (n := e + 1) (by omega)]
      exact next_j0 K e a hA (e + 1) a' (by omega) (by unfold secs; omega) (by omega) _ _ _ _ _ _ _ _ hr
  · rw [if_neg hl]
    exact next_j0 K e a hA e a' (by omega) (by unfold secs; omega) (by omega) _ _ _ _ _ _ _ _ hr
end Go.Proofs.Ytbondhnhiinlbaa.Pr
