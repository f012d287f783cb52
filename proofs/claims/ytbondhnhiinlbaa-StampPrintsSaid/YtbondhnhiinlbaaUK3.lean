/- What is read is written as it was; what is written is read as the last time that is no later. -/
import Derived.Test.YtbondhnhiinlbaaUK2
import Derived.Test.YtbondhnhiinlbaaUPrx36
import Derived.OpenShut
set_option linter.unusedVariables false
set_option linter.unusedSimpArgs false
namespace Go.Proofs.Ytbondhnhiinlbaa.Pr
open Go.ChangeShapes Go.WideShapes Go.RowKit Go.Proofs.YtbondhnhiinlbaaW.PrintWords Go.Proofs.YtbondhnhiinlbaaW.PrintLast Go.Proofs.YtbondhnhiinlbaaW.PrintMore
theorem tsecs_of (e a : Int) (hg : good e a) : tsecs (secs e a / 86400) (secs e a / 3600 % 24) (secs e a / 60 % 60) (secs e a % 60) = e * 4294967296 + a / 4294967296 := by
  have h3 := hg.2.2.1
  have hs : secs e a = e * 4294967296 + a / 4294967296 + 59926608000 := rfl
  unfold tsecs
  generalize secs e a = S at hs h3 ⊢
  have e1 : S / 3600 = S / 60 / 60 := by omega
  have e2 : S / 86400 = S / 60 / 60 / 24 := by omega
  rw [e1, e2]
  omega
theorem ofdate_back {day y D : Int} {j : Nat} (hc : Cal day y j D) (h mi s fr : Int) (hr : 0 ≤ h ∧ h ≤ 23 ∧ 0 ≤ mi ∧ mi ≤ 59 ∧ 0 ≤ s ∧ s ≤ 59) (hf : 0 ≤ fr ∧ fr < 4294967296) :
    stamp_OfDate.f (tsecs day h mi s / 4294967296) (tsecs day h mi s % 4294967296 * 4294967296 + fr) = some (y, (j : Int) + 1, D, h, mi, s, fr, 0) := by
  obtain ⟨b1, b2, b3, b4, b5⟩ := hc.bounds
  have hs : secs (tsecs day h mi s / 4294967296) (tsecs day h mi s % 4294967296 * 4294967296 + fr) = day * 86400 + h * 3600 + mi * 60 + s := by
    unfold secs tsecs
    omega
  have hg : good (tsecs day h mi s / 4294967296) (tsecs day h mi s % 4294967296 * 4294967296 + fr) := by
    unfold good
    rw [hs]
    unfold tsecs
    omega
  have hday : (day * 86400 + h * 3600 + mi * 60 + s) / 86400 = day := by omega
  rw [ofdate_good _ _ (by omega) hg (by rw [hs, hday]; exact hc), hs]
  congr 1
  simp only [Prod.mk.injEq]
  refine ⟨trivial, trivial, trivial, by omega, by omega, by omega, by omega, trivial⟩
theorem frac_print {n : Int} (h : 0 ≤ n ∧ n < 1000000) : fracOf n * 1000000 / 4294967296 = n := by unfold fracOf; omega
/-- what is read is written as it was -/
theorem read_written (s : ByteArray) : ∃ r1 r2 r3, stamp_Parse.f s = some (r1, r2, r3) ∧ (r3 = 0 → Ev (fun k => stamp_Print.f k r1 r2) (s, 0)) := by
  rcases hfl : fl form7 (bnums s) with _ | r
  · exact ⟨_, _, _, parse_none hfl, fun h => absurd h (by decide)⟩
  · obtain ⟨y, m, d, hh, mi, sc, n, q, rfl, hL⟩ := fl_inv hfl
    have hp := parse_some q hfl
    have hf := frac_range q.n
    rcases todate_cases y m d hh mi sc (fracOf n) hf with h1 | ⟨day, j, rfl, hc, hr⟩
    · exact ⟨_, _, _, hp.trans h1, fun h => absurd h (by decide)⟩
    · refine ⟨_, _, _, hp.trans (date_good hc hh mi sc (fracOf n) hr hf), fun _ => ?_⟩
      have y1 := hc.y1
      have y2 := hc.y2
      have j2 := hc.j2
      have d1 := hc.d1
      have b := hc.bounds
      have h := print_ok _ _ _ _ _ _ _ _ _ (ofdate_back hc hh mi sc (fracOf n) hr hf) (by omega) (by omega) (by omega) (by omega) (by omega) (by omega) hf
      rw [frac_print q.n, ← hL, son_bnums] at h
      exact h
/-- what is written is read as the last time that is no later -/
theorem written_read (e a : Int) (hA : 0 ≤ a ∧ a ≤ 18446744073709551615) : ∃ T x, Ev (fun k => stamp_Print.f k e a) (T, x) ∧ (x = 0 → ∃ b, stamp_Parse.f T = some (e, b, 0) ∧ b ≤ a ∧ a - b ≤ 4295) := by
  by_cases hg : good e a
  · obtain ⟨y, j, D, hc⟩ := Cal.exists (day := secs e a / 86400) (by have := hg.2.2.1; omega) hg.2.2.2
    have ho := ofdate_good e a hA hg hc
    have b := hc.bounds
    have y1 := hc.y1
    have y2 := hc.y2
    have j2 := hc.j2
    have d1 := hc.d1
    refine ⟨_, 0, print_ok e a _ _ _ _ _ _ _ ho (by omega) (by omega) (by omega) (by omega) (by omega) (by omega) (by omega), fun _ => ?_⟩
    have q : InForm y ((j : Int) + 1) D (secs e a / 3600 % 24) (secs e a / 60 % 60) (secs e a % 60) (a % 4294967296 * 1000000 / 4294967296) := ⟨by omega, by omega, by omega, by omega, by omega, by omega, by omega⟩
    have hp := parse_some (s := strOfNums (outOf y ((j : Int) + 1) D (secs e a / 3600 % 24) (secs e a / 60 % 60) (secs e a % 60) (a % 4294967296 * 1000000 / 4294967296))) q (by rw [bnums_son _ (out_range _ _ _ _ _ _ _)]; exact fl_out q)
    have hf := frac_range q.n
    rw [date_good hc _ _ _ _ (by omega) hf, tsecs_of e a hg] at hp
    have e1 : (e * 4294967296 + a / 4294967296) / 4294967296 = e := by omega
    have e2 : (e * 4294967296 + a / 4294967296) % 4294967296 = a / 4294967296 := by omega
    rw [e1, e2] at hp
    refine ⟨_, hp, ?_, ?_⟩
    · unfold fracOf; omega
    · unfold fracOf; omega
  · have ho := ofdate_bad e a hA hg
    exact ⟨_, 20, Ev.all fun k => print_err e a 20 (by decide) ho k, fun h => absurd h (by decide)⟩
theorem pure_StampPrints (s : ByteArray) (e a : Int) (he : (Lit.int .i64 e).wf = true) (ha : (Lit.int .u64 a).wf = true) : ∃ k, foliotlaw02_StampPrints.f k s e a = some true := by
  have hA := bounds_u64 ha
  obtain ⟨K, hK⟩ := shown_ev
  obtain ⟨r1, r2, r3, hp, hw⟩ := read_written s
  obtain ⟨T, x, ⟨K2, h2⟩, hr⟩ := written_read e a hA
  have hj : ∀ k, K2 ≤ k → foliotlaw02_StampPrints.j0 (k + 1) e a = some true := fun k hk => by
    have g2 := h2 k hk
    dsimp only at g2
    have g2' : stamp_Print.f k e a = some (T, x) := g2
    simp only [foliotlaw02_StampPrints.j0]
    rw [g2', Option.bind_some]
    by_cases hx : x = 0
    · obtain ⟨b, hb, hb1, hb2⟩ := hr hx
      rw [if_pos hx]
      dsimp only
      rw [hb, Option.bind_some]
      dsimp only
      rw [if_pos rfl, if_pos rfl, if_neg (by omega), if_neg (by rw [u64_mod]; omega)]
    · rw [if_neg hx]
  by_cases h3 : r3 = 0
  · obtain ⟨K1, h1⟩ := hw h3
    refine ⟨K + K1 + K2 + 1, ?_⟩
    have g := hK (K + K1 + K2 + 1) (by omega)
    have g1 := h1 (K + K1 + K2 + 1) (by omega)
    dsimp only at g g1
    unfold foliotlaw02_StampPrints.f
    rw [g, Option.bind_some, if_pos rfl, hp, Option.bind_some, if_pos h3]
    dsimp only
    rw [g1, Option.bind_some, if_pos rfl, if_pos rfl]
    exact hj _ (by omega)
  · refine ⟨K + K2 + 1, ?_⟩
    have g := hK (K + K2 + 1) (by omega)
    dsimp only at g
    unfold foliotlaw02_StampPrints.f
    rw [g, Option.bind_some, if_pos rfl, hp, Option.bind_some, if_neg h3]
    exact hj _ (by omega)
end Go.Proofs.Ytbondhnhiinlbaa.Pr
