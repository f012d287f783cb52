/- The law StampBack: called with any arguments it returns true, and its arguments read as they did. -/
import Derived.Test.YtbondhnhiinlbaaRows
import Derived.Test.YtbondhnhiinlbaaPrx30
import Derived.Test.YtbondhnhiinlbaaRw
import Derived.WalkKit
import Derived.ProofKit
import Derived.OpenShut
import Derived.ShutString
import Derived.ChangeOld
import Derived.Below
import Derived.SizedLaws
import Derived.Lib.SmallJoins
import Derived.Test.YtbondhnhiinlbaaPe
import Derived.Test.YtbondhnhiinlbaaPb
section
set_option linter.unusedVariables false
set_option linter.unusedSimpArgs false
namespace Go.Proofs.Ytbondhnhiinlbaa.Pr
open Go.ChangeShapes Go.WideShapes Go.RowKit Go.Proofs.YtbondhnhiinlbaaW.PrintWords Go.Proofs.YtbondhnhiinlbaaW.PrintLast Go.Proofs.YtbondhnhiinlbaaW.PrintMore
theorem back_one (e a : Int) (ha : 0 ≤ a ∧ a ≤ 18446744073709551615) (hg : good e a) {y D : Int} {j : Nat} (hc : Cal (secs e a / 86400) y j D) :
    stamp_ToDate.f y ((j : Int) + 1) D (secs e a / 3600 % 24) (secs e a / 60 % 60) (secs e a % 60) (a % 4294967296) = some (e, a, 0) := by
  rw [date_good hc _ _ _ _ (by omega) (by omega)]
  have ht : tsecs (secs e a / 86400) (secs e a / 3600 % 24) (secs e a / 60 % 60) (secs e a % 60) = e * 4294967296 + a / 4294967296 := by
    have h3 := hg.2.2.1
    have hs : secs e a = e * 4294967296 + a / 4294967296 + 59926608000 := rfl
    unfold tsecs
    generalize secs e a = S at hs h3 ⊢
    have e1 : S / 3600 = S / 60 / 60 := by omega
    have e2 : S / 86400 = S / 60 / 60 / 24 := by omega
    rw [e1, e2]
    omega
  rw [ht]
  congr 1
  simp only [Prod.mk.injEq]
  refine ⟨by omega, by omega, trivial⟩
theorem back_two {day y D : Int} {j : Nat} (hc : Cal day y j D) (h mi s fr : Int) (hr : 0 ≤ h ∧ h ≤ 23 ∧ 0 ≤ mi ∧ mi ≤ 59 ∧ 0 ≤ s ∧ s ≤ 59) (hf : 0 ≤ fr ∧ fr < 4294967296) :
    stamp_OfDate.f (tsecs day h mi s / 4294967296) (tsecs day h mi s % 4294967296 * 4294967296 + fr) = some (y, (j : Int) + 1, D, h, mi, s, fr, 0) := by
  obtain ⟨b1, b2, b3, b4, b5⟩ := hc.bounds
  have hs : secs (tsecs day h mi s / 4294967296) (tsecs day h mi s % 4294967296 * 4294967296 + fr) = day * 86400 + h * 3600 + mi * 60 + s := by
    unfold secs tsecs
    omega
  have hg : good (tsecs day h mi s / 4294967296) (tsecs day h mi s % 4294967296 * 4294967296 + fr) := by
    unfold good
    rw [hs]
    unfold tsecs
    omega
  have hday : (day * 86400 + h * 3600 + mi * 60 + s) / 86400 = day := by omega
  rw [ofdate_good _ _ (by omega) hg (by rw [hs, hday]; exact hc), hs]
  congr 1
  simp only [Prod.mk.injEq]
  refine ⟨trivial, trivial, trivial, by omega, by omega, by omega, by omega, trivial⟩
theorem back_j0 (k : Nat) (y m d h mi s fr : Int) (hf : 0 ≤ fr ∧ fr < 4294967296) : foliotlaw02_StampBack.j0 (k + 1) y m d h mi s fr = some true := by
  simp only [foliotlaw02_StampBack.j0]
  rcases todate_cases y m d h mi s fr hf with h1 | ⟨day, j, rfl, hc, hr⟩
  · rw [h1, Option.bind_some, if_neg (by decide)]
  · rw [date_good hc h mi s fr hr hf, Option.bind_some, if_pos rfl]
    dsimp only
    rw [back_two hc h mi s fr hr hf, Option.bind_some]
    simp
theorem pure_StampBack (e a y m d h mi s fr : Int) (he : (Lit.int .i64 e).wf = true) (ha : (Lit.int .u64 a).wf = true) (hy : (Lit.int .i64 y).wf = true) (hm : (Lit.int .i64 m).wf = true) (hd : (Lit.int .i64 d).wf = true) (hh : (Lit.int .i64 h).wf = true) (hmi : (Lit.int .i64 mi).wf = true) (hs : (Lit.int .i64 s).wf = true) (hfr : (Lit.int .u32 fr).wf = true) : ∃ k, foliotlaw02_StampBack.f k e a y m d h mi s fr = some true := by
  have hA := bounds_u64 ha
  have hF := bounds_u32 hfr
  obtain ⟨K, hK⟩ : ∃ K, ∀ k, K ≤ k → foliotlaw02_shown.f k = some true := shown_ev
  refine ⟨K + 1, ?_⟩
  unfold foliotlaw02_StampBack.f
  rw [hK (K + 1) (by omega), Option.bind_some, if_pos rfl]
  by_cases hg : good e a
  · obtain ⟨y', j, D, hc⟩ := Cal.exists (day := secs e a / 86400) (by have := hg.2.2.1; omega) hg.2.2.2
    rw [ofdate_good e a hA hg hc, Option.bind_some, if_pos rfl]
    dsimp only
    rw [back_one e a hA hg hc, Option.bind_some, if_pos rfl]
    dsimp only
    rw [if_neg (by simp), back_j0 K y m d h mi s fr (by omega)]
  · rw [ofdate_bad e a hA hg, Option.bind_some, if_neg (by decide), back_j0 K y m d h mi s fr (by omega)]
end Go.Proofs.Ytbondhnhiinlbaa.Pr
end
section
set_option linter.unusedVariables false
namespace Go.Proofs.Ytbondhnhiinlbaa.stampBack
open Go.ChangeShapes Go.WideShapes Go.ChangeAt Go.RowKit Go.Joins
open Go.ChangeMaps (open_string shut_string)
open Go.Proofs.YtbondhnhiinlbaaW.PrintWords Go.Proofs.Ytbondhnhiinlbaa.Pr Go.Proofs.Ytbondhnhiinlbaa.Rw
theorem own : ownKnob Try.prog.godebug = none := by kernel_rfl
theorem laidOut : laidOutB Try.prog = true := by kernel_rfl
set_option maxRecDepth 100000 in
theorem lifted (os : Os) (started : os.Started) (H : Type) (enc : TypeId × Value → H) :
    ReturnsInHanded {} Try.checked os 4 .any (Rows.stampBackSpec.pre6 enc Try.prog Try.f4 Rows.stampBackRow.domain false) (Rows.stampBackSpec.post enc Try.prog Try.f4 false true false false) := by
  refine returnsInHanded_of_change_sized (C := Try.checked) own started (by kernel_rfl) Try.func4
    (ChangeSpec.witness6 (enc := enc) (C := Try.checked) false ⟨#[], #[.agg #[.int .i64 0, .int .u64 0], .agg #[.int .i64 0, .int .i64 0, .int .i64 0, .int .i64 0, .int .i64 0, .int .i64 0, .int .u32 0]], []⟩ 8 (by kernel_rfl) (by kernel_rfl) (by kernel_rfl) (by kernel_rfl)) ?_
  intro W base args ds gs before hval0 hW hcnd hsz0 _
  have hval : ∀ (j : Nat) t v, Try.f4.params[j]? = some t → args[j]? = some v → Value.okWide Try.prog W .any base t v := hval0
  have hW' := hW
  obtain ⟨p, q, hA0, hV, rfl, hfz, hnd⟩ := hW
  have hA : DataW.TrodAll enc Try.prog W 0 (fun _ => true) true Try.f4.params.toList args.toList ds p := hA0
  rw [Try.params4] at hA hval
  obtain ⟨v0, vs0, d0, ds0, p0, q0, hargs, rfl, rfl, h0, r0⟩ := trodAll_cons hA
  obtain ⟨v1, vs1, d1, ds1, p1, q1, rfl, rfl, rfl, h1, r1⟩ := trodAll_cons r0
  obtain ⟨rfl, rfl, rfl⟩ := trodAll_nil r1
  obtain rfl : args = #[v0, v1] := by cases args; simp_all
  obtain ⟨rfl, rfl⟩ := trodVars_none hV
  have k0 := h0
  have lt0 : ∀ x ∈ p0, x.block < W.heap.size := by obtain ⟨m, hm⟩ := k0; exact DataW.trod_lt m _ _ _ hm
  obtain ⟨b0_0, b0_1, rfl, y0_0, y0_1⟩ := open_date (hval 0 25 v0 rfl rfl) h0
  have k1 := h1
  have lt1 : ∀ x ∈ p1, x.block < W.heap.size := by obtain ⟨m, hm⟩ := k1; exact DataW.trod_lt m _ _ _ hm
  obtain ⟨b1_0, b1_1, b1_2, b1_3, b1_4, b1_5, b1_6, rfl, y1_0, y1_1, y1_2, y1_3, y1_4, y1_5, y1_6⟩ := open_civil (hval 1 28 v1 rfl rfl) h1
  clear hA0 hval0
  obtain ⟨k, hk⟩ := pure_StampBack b0_0 b0_1 b1_0 b1_1 b1_2 b1_3 b1_4 b1_5 b1_6 y0_0 y0_1 y1_0 y1_1 y1_2 y1_3 y1_4 y1_5 y1_6
  refine (foliotlaw02_StampBack.calls k b0_0 b0_1 b1_0 b1_1 b1_2 b1_3 b1_4 b1_5 b1_6 true W hk).mono fun e W' ⟨he, bel⟩ => ?_
  subst he
  exact ⟨_, rfl, _, _, _, [], _, [], hW', trodAll_mk1 (shut_bool Try.underlying4 _), (trodAll_cons_mk (Below.trod laidOut (by kernel_rfl) (of_decide_eq_true (by kernel_rfl)) k0 bel lt0) (trodAll_cons_mk (Below.trod laidOut (by kernel_rfl) (of_decide_eq_true (by kernel_rfl)) k1 bel lt1) trodAll_mk0)), rfl, bel.frame _, fun h => by cases h⟩
theorem over : Rows.stampBackRow.holds Try.pinned (OpenSpec.ofChange Rows.stampBackSpec) :=
  OpenClaim.holds_of_wide 4 Try.f4 rfl rfl rfl rfl rfl rfl rfl ⟨rfl, rfl, rfl, rfl, rfl⟩ rfl rfl rfl rfl rfl (by kernel_rfl) Try.func4 (by kernel_rfl)
    (of_decide_eq_true (by kernel_rfl)) (by unfold Func.isWrapper; first | (rw [if_pos (by decide +kernel)]; kernel_rfl) | (rw [if_neg (by decide +kernel)]; exact ⟨rfl, rfl⟩))
    (fun os started H enc _ => lifted os started H enc)
theorem proved : Rows.StampBackSaid := over
#print axioms proved
end Go.Proofs.Ytbondhnhiinlbaa.stampBack
namespace Go.Proofs.Ytbondhnhiinlbaa
/-- The row, under a short name, for the claim. -/
theorem stampBack_holds : Rows.StampBackSaid := stampBack.proved
end Go.Proofs.Ytbondhnhiinlbaa
end
