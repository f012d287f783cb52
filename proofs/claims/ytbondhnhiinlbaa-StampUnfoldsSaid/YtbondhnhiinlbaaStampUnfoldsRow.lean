/- The law StampUnfolds: called with any arguments it returns true, and its arguments read as they did. -/
import Derived.Test.YtbondhnhiinlbaaRows
import Derived.Test.YtbondhnhiinlbaaPrx49
import Derived.Test.YtbondhnhiinlbaaRw
import Derived.WalkKit
import Derived.ProofKit
import Derived.OpenShut
import Derived.ShutString
import Derived.ChangeOld
import Derived.Below
import Derived.SizedLaws
import Derived.Lib.SmallJoins
import Derived.Test.YtbondhnhiinlbaaPc
section
set_option linter.unusedVariables false
set_option linter.unusedSimpArgs false
namespace Go.Proofs.Ytbondhnhiinlbaa.Pr
open Go.ChangeShapes Go.WideShapes Go.RowKit Go.Proofs.YtbondhnhiinlbaaW.PrintWords Go.Proofs.YtbondhnhiinlbaaW.PrintLast Go.Proofs.YtbondhnhiinlbaaW.PrintMore
theorem refunfold_eq (k : Nat) (t e p : Int) (he : -4611686018427387904 ≤ e ∧ e ≤ 4611686018427387904) (ht : 0 ≤ t ∧ t ≤ 18446744073709551615) (hp : 0 ≤ p ∧ p ≤ 18446744073709551615) : foliotref02_Unfold.f (k + 1) t e p = some (eraOf t e p, t) := by
  unfold foliotref02_Unfold.f eraOf
  by_cases h0 : t ≥ p
  · rw [if_pos h0]
    have e1 : IntKind.u64.wrap (t - p) = t - p := by rw [u64_mod]; omega
    rw [e1]
    by_cases h1 : t - p ≥ 9223372036854775808
    · rw [decide_eq_true h1]
      simp only [foliotref02_Unfold.j0]
      rw [if_pos trivial, if_neg (by omega), if_neg (by omega), if_pos ⟨by omega, h1⟩]
    · rw [decide_eq_false h1]
      simp only [foliotref02_Unfold.j0]
      rw [if_neg (by decide), if_neg (by omega), if_neg (by omega), if_neg (by omega)]
  · rw [if_neg h0]
    have e1 : IntKind.u64.wrap (p - t) = p - t := by rw [u64_mod]; omega
    simp only [foliotref02_Unfold.j0]
    rw [if_neg (by decide), if_pos (by omega), e1]
    by_cases h1 : p - t > 9223372036854775808
    · rw [if_pos h1, if_pos ⟨by omega, h1⟩]
    · rw [if_neg h1, if_neg (by omega), if_neg (by omega)]
theorem pure_StampUnfolds (t e p : Int) (ht : (Lit.int .u64 t).wf = true) (he : (Lit.int .i64 e).wf = true) (hp : (Lit.int .u64 p).wf = true) : ∃ k, foliotlaw02_StampUnfolds.f k t e p = some true := by
  have hT := bounds_u64 ht
  have hP := bounds_u64 hp
  obtain ⟨K, hK⟩ := shown_at
  refine ⟨K + 2, ?_⟩
  unfold foliotlaw02_StampUnfolds.f
  rw [hK (K + 2) (by omega), Option.bind_some, if_pos rfl]
  by_cases h1 : e > 4611686018427387904
  · rw [if_pos h1]
    simp [foliotlaw02_StampUnfolds.j0]
  · rw [if_neg h1]
    by_cases h2 : e < -4611686018427387904
    · rw [decide_eq_true h2]
      simp [foliotlaw02_StampUnfolds.j0]
    · rw [decide_eq_false h2]
      simp only [foliotlaw02_StampUnfolds.j0]
      rw [if_neg (by decide), unfold_eq K t e p hT hP]
      simp only [Option.bind_some, foliotlaw02_date.f]
      rw [refunfold_eq K t e p (by omega) hT hP]
      simp
end Go.Proofs.Ytbondhnhiinlbaa.Pr
end
section
set_option linter.unusedVariables false
namespace Go.Proofs.Ytbondhnhiinlbaa.stampUnfolds
open Go.ChangeShapes Go.WideShapes Go.ChangeAt Go.RowKit Go.Joins
open Go.ChangeMaps (open_string shut_string)
open Go.Proofs.YtbondhnhiinlbaaW.PrintWords Go.Proofs.Ytbondhnhiinlbaa.Pr Go.Proofs.Ytbondhnhiinlbaa.Rw
theorem own : ownKnob Try.prog.godebug = none := by kernel_rfl
theorem laidOut : laidOutB Try.prog = true := by kernel_rfl
set_option maxRecDepth 100000 in
theorem lifted (os : Os) (started : os.Started) (H : Type) (enc : TypeId × Value → H) :
    ReturnsInHanded {} Try.checked os 11 .any (Rows.stampUnfoldsSpec.pre6 enc Try.prog Try.f11 Rows.stampUnfoldsRow.domain false) (Rows.stampUnfoldsSpec.post enc Try.prog Try.f11 false true false false) := by
  refine returnsInHanded_of_change_sized (C := Try.checked) own started (by kernel_rfl) Try.func11
    (ChangeSpec.witness6 (enc := enc) (C := Try.checked) false ⟨#[], #[.int .u64 0, .agg #[.int .i64 0, .int .u64 0]], []⟩ 8 (by kernel_rfl) (by kernel_rfl) (by kernel_rfl) (by kernel_rfl)) ?_
  intro W base args ds gs before hval0 hW hcnd hsz0 _
  have hval : ∀ (j : Nat) t v, Try.f11.params[j]? = some t → args[j]? = some v → Value.okWide Try.prog W .any base t v := hval0
  have hW' := hW
  obtain ⟨p, q, hA0, hV, rfl, hfz, hnd⟩ := hW
  have hA : DataW.TrodAll enc Try.prog W 0 (fun _ => true) true Try.f11.params.toList args.toList ds p := hA0
  rw [Try.params11] at hA hval
  obtain ⟨v0, vs0, d0, ds0, p0, q0, hargs, rfl, rfl, h0, r0⟩ := trodAll_cons hA
  obtain ⟨v1, vs1, d1, ds1, p1, q1, rfl, rfl, rfl, h1, r1⟩ := trodAll_cons r0
  obtain ⟨rfl, rfl, rfl⟩ := trodAll_nil r1
  obtain rfl : args = #[v0, v1] := by cases args; simp_all
  obtain ⟨rfl, rfl⟩ := trodVars_none hV
  obtain ⟨a0, rfl, rfl, rfl, w0⟩ := open_int Try.underlying23 (hval 0 23 v0 rfl rfl) h0
  have k1 := h1
  have lt1 : ∀ x ∈ p1, x.block < W.heap.size := by obtain ⟨m, hm⟩ := k1; exact DataW.trod_lt m _ _ _ hm
  obtain ⟨b1_0, b1_1, rfl, y1_0, y1_1⟩ := open_date (hval 1 25 v1 rfl rfl) h1
  clear hA0 hval0
  obtain ⟨k, hk⟩ := pure_StampUnfolds a0 b1_0 b1_1 w0 y1_0 y1_1
  refine (foliotlaw02_StampUnfolds.calls k a0 b1_0 b1_1 true W hk).mono fun e W' ⟨he, bel⟩ => ?_
  subst he
  exact ⟨_, rfl, _, _, _, [], _, [], hW', trodAll_mk1 (shut_bool Try.underlying4 _), (trodAll_cons_mk (shut_int Try.underlying23 w0) (trodAll_cons_mk (Below.trod laidOut (by kernel_rfl) (of_decide_eq_true (by kernel_rfl)) k1 bel lt1) trodAll_mk0)), rfl, bel.frame _, fun h => by cases h⟩
theorem over : Rows.stampUnfoldsRow.holds Try.pinned (OpenSpec.ofChange Rows.stampUnfoldsSpec) :=
  OpenClaim.holds_of_wide 11 Try.f11 rfl rfl rfl rfl rfl rfl rfl ⟨rfl, rfl, rfl, rfl, rfl⟩ rfl rfl rfl rfl rfl (by kernel_rfl) Try.func11 (by kernel_rfl)
    (of_decide_eq_true (by kernel_rfl)) (by unfold Func.isWrapper; first | (rw [if_pos (by decide +kernel)]; kernel_rfl) | (rw [if_neg (by decide +kernel)]; exact ⟨rfl, rfl⟩))
    (fun os started H enc _ => lifted os started H enc)
theorem proved : Rows.StampUnfoldsSaid := over
#print axioms proved
end Go.Proofs.Ytbondhnhiinlbaa.stampUnfolds
namespace Go.Proofs.Ytbondhnhiinlbaa
/-- The row, under a short name, for the claim. -/
theorem stampUnfolds_holds : Rows.StampUnfoldsSaid := stampUnfolds.proved
end Go.Proofs.Ytbondhnhiinlbaa
end
