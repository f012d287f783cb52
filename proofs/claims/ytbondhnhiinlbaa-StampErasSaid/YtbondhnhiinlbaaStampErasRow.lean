/- The law StampEras: called with any arguments it returns true, and its arguments read as they did. -/
import Derived.Test.YtbondhnhiinlbaaRows
import Derived.Test.YtbondhnhiinlbaaPrx50
import Derived.Test.YtbondhnhiinlbaaRw
import Derived.WalkKit
import Derived.ProofKit
import Derived.OpenShut
import Derived.ShutString
import Derived.ChangeOld
import Derived.Below
import Derived.SizedLaws
import Derived.Lib.SmallJoins
import Derived.Test.YtbondhnhiinlbaaPc
section
set_option linter.unusedVariables false
set_option linter.unusedSimpArgs false
namespace Go.Proofs.Ytbondhnhiinlbaa.Pr
open Go.ChangeShapes Go.WideShapes Go.RowKit Go.Proofs.YtbondhnhiinlbaaW.PrintWords Go.Proofs.YtbondhnhiinlbaaW.PrintLast Go.Proofs.YtbondhnhiinlbaaW.PrintMore
theorem pure_StampEras (e a d : Int) (he : (Lit.int .i64 e).wf = true) (ha : (Lit.int .u64 a).wf = true) (hd : (Lit.int .i64 d).wf = true) : ∃ k, foliotlaw02_StampEras.f k e a d = some true := by
  have hA := bounds_u64 ha
  obtain ⟨K, hK⟩ := shown_at
  refine ⟨K + 5, ?_⟩
  unfold foliotlaw02_StampEras.f
  rw [hK (K + 5) (by omega), Option.bind_some, if_pos rfl]
  by_cases h1 : e > 4611686018427387904
  · rw [if_pos h1]
    simp [foliotlaw02_StampEras.j0]
  · rw [if_neg h1]
    by_cases h2 : e < -4611686018427387904
    · rw [if_pos h2]
      simp [foliotlaw02_StampEras.j0]
    · rw [if_neg h2]
      by_cases h3 : d < -4611686018427387904
      · rw [if_pos h3]
        simp [foliotlaw02_StampEras.j0]
      · rw [if_neg h3]
        by_cases h4 : d > 4611686018427387904
        · rw [decide_eq_true h4]
          simp [foliotlaw02_StampEras.j0]
        · rw [decide_eq_false h4]
          obtain ⟨t, ht⟩ : ∃ t, IntKind.u64.wrap (a + IntKind.u64.wrap d) = t := ⟨_, rfl⟩
          have ht2 := ht
          rw [u64_mod, u64_mod] at ht2
          have hT : 0 ≤ t ∧ t ≤ 18446744073709551615 := by omega
          have key : ∀ e2 : Int, e2 = eraOf t e a → eraOf a e2 t = e →
              (stamp_Unfold.f (K + 1) t e a).bind (fun bt386 => if (bt386.1 == e2 && (bt386.2 == t)) = true then ((stamp_Unfold.f (K + 1) a e2 t).bind fun bt388 => (some (bt388.1 == e && (bt388.2 == a)))) else (some false)) = some true := by
            intro e2 h5 h6
            rw [unfold_eq K t e a hT hA, Option.bind_some, if_pos (by simp [h5]), unfold_eq K a e2 t hA hT, Option.bind_some, h6]
            simp
          simp only [foliotlaw02_StampEras.j0]
          rw [if_neg (by decide), ht]
          by_cases h5 : d > 0
          · rw [if_pos h5]
            simp only [foliotlaw02_StampEras.j1]
            by_cases h6 : t < a
            · rw [decide_eq_true h6, if_pos rfl]
              simp only [foliotlaw02_StampEras.j2]
              rw [if_neg (by omega)]
              simp only [foliotlaw02_StampEras.j3]
              rw [if_neg (by decide)]
              refine key _ ?_ ?_ <;> unfold eraOf wrap64 <;> (repeat' split) <;> omega
            · rw [decide_eq_false h6, if_neg (by decide)]
              simp only [foliotlaw02_StampEras.j2]
              rw [if_neg (by omega)]
              simp only [foliotlaw02_StampEras.j3]
              rw [if_neg (by decide)]
              refine key _ ?_ ?_ <;> unfold eraOf wrap64 <;> (repeat' split) <;> omega
          · rw [if_neg h5]
            simp only [foliotlaw02_StampEras.j1]
            rw [if_neg (by decide)]
            simp only [foliotlaw02_StampEras.j2]
            by_cases h7 : d < 0
            · rw [if_pos h7]
              by_cases h6 : t > a
              · rw [decide_eq_true h6]
                simp only [foliotlaw02_StampEras.j3]
                first | rw [if_pos rfl] | rw [if_pos trivial]
                refine key _ ?_ ?_ <;> unfold eraOf wrap64 <;> (repeat' split) <;> omega
              · rw [decide_eq_false h6]
                simp only [foliotlaw02_StampEras.j3]
                rw [if_neg (by decide)]
                refine key _ ?_ ?_ <;> unfold eraOf wrap64 <;> (repeat' split) <;> omega
            · rw [if_neg h7]
              simp only [foliotlaw02_StampEras.j3]
              rw [if_neg (by decide)]
              refine key _ ?_ ?_ <;> unfold eraOf wrap64 <;> (repeat' split) <;> omega
end Go.Proofs.Ytbondhnhiinlbaa.Pr
end
section
set_option linter.unusedVariables false
namespace Go.Proofs.Ytbondhnhiinlbaa.stampEras
open Go.ChangeShapes Go.WideShapes Go.ChangeAt Go.RowKit Go.Joins
open Go.ChangeMaps (open_string shut_string)
open Go.Proofs.YtbondhnhiinlbaaW.PrintWords Go.Proofs.Ytbondhnhiinlbaa.Pr Go.Proofs.Ytbondhnhiinlbaa.Rw
theorem own : ownKnob Try.prog.godebug = none := by kernel_rfl
theorem laidOut : laidOutB Try.prog = true := by kernel_rfl
set_option maxRecDepth 100000 in
theorem lifted (os : Os) (started : os.Started) (H : Type) (enc : TypeId × Value → H) :
    ReturnsInHanded {} Try.checked os 12 .any (Rows.stampErasSpec.pre6 enc Try.prog Try.f12 Rows.stampErasRow.domain false) (Rows.stampErasSpec.post enc Try.prog Try.f12 false true false false) := by
  refine returnsInHanded_of_change_sized (C := Try.checked) own started (by kernel_rfl) Try.func12
    (ChangeSpec.witness6 (enc := enc) (C := Try.checked) false ⟨#[], #[.agg #[.int .i64 0, .int .u64 0], .int .i64 0], []⟩ 8 (by kernel_rfl) (by kernel_rfl) (by kernel_rfl) (by kernel_rfl)) ?_
  intro W base args ds gs before hval0 hW hcnd hsz0 _
  have hval : ∀ (j : Nat) t v, Try.f12.params[j]? = some t → args[j]? = some v → Value.okWide Try.prog W .any base t v := hval0
  have hW' := hW
  obtain ⟨p, q, hA0, hV, rfl, hfz, hnd⟩ := hW
  have hA : DataW.TrodAll enc Try.prog W 0 (fun _ => true) true Try.f12.params.toList args.toList ds p := hA0
  rw [Try.params12] at hA hval
  obtain ⟨v0, vs0, d0, ds0, p0, q0, hargs, rfl, rfl, h0, r0⟩ := trodAll_cons hA
  obtain ⟨v1, vs1, d1, ds1, p1, q1, rfl, rfl, rfl, h1, r1⟩ := trodAll_cons r0
  obtain ⟨rfl, rfl, rfl⟩ := trodAll_nil r1
  obtain rfl : args = #[v0, v1] := by cases args; simp_all
  obtain ⟨rfl, rfl⟩ := trodVars_none hV
  have k0 := h0
  have lt0 : ∀ x ∈ p0, x.block < W.heap.size := by obtain ⟨m, hm⟩ := k0; exact DataW.trod_lt m _ _ _ hm
  obtain ⟨b0_0, b0_1, rfl, y0_0, y0_1⟩ := open_date (hval 0 25 v0 rfl rfl) h0
  obtain ⟨a1, rfl, rfl, rfl, w1⟩ := open_int Try.underlying50 (hval 1 50 v1 rfl rfl) h1
  clear hA0 hval0
  obtain ⟨k, hk⟩ := pure_StampEras b0_0 b0_1 a1 y0_0 y0_1 w1
  refine (foliotlaw02_StampEras.calls k b0_0 b0_1 a1 true W hk).mono fun e W' ⟨he, bel⟩ => ?_
  subst he
  exact ⟨_, rfl, _, _, _, [], _, [], hW', trodAll_mk1 (shut_bool Try.underlying4 _), (trodAll_cons_mk (Below.trod laidOut (by kernel_rfl) (of_decide_eq_true (by kernel_rfl)) k0 bel lt0) (trodAll_cons_mk (shut_int Try.underlying50 w1) trodAll_mk0)), rfl, bel.frame _, fun h => by cases h⟩
theorem over : Rows.stampErasRow.holds Try.pinned (OpenSpec.ofChange Rows.stampErasSpec) :=
  OpenClaim.holds_of_wide 12 Try.f12 rfl rfl rfl rfl rfl rfl rfl ⟨rfl, rfl, rfl, rfl, rfl⟩ rfl rfl rfl rfl rfl (by kernel_rfl) Try.func12 (by kernel_rfl)
    (of_decide_eq_true (by kernel_rfl)) (by unfold Func.isWrapper; first | (rw [if_pos (by decide +kernel)]; kernel_rfl) | (rw [if_neg (by decide +kernel)]; exact ⟨rfl, rfl⟩))
    (fun os started H enc _ => lifted os started H enc)
theorem proved : Rows.StampErasSaid := over
#print axioms proved
end Go.Proofs.Ytbondhnhiinlbaa.stampEras
namespace Go.Proofs.Ytbondhnhiinlbaa
/-- The row, under a short name, for the claim. -/
theorem stampEras_holds : Rows.StampErasSaid := stampEras.proved
end Go.Proofs.Ytbondhnhiinlbaa
end
