/- The law ChooseSame: called with any arguments it returns true, and its arguments read as they did. -/
import Derived.Test.YtlhecfleanppmaaRows
import Derived.Test.YtlhecfleanppmaaPrx26
import Derived.Test.YtlhecfleanppmaaRw
import Derived.WalkKit
import Derived.ProofKit
import Derived.OpenShut
import Derived.ShutString
import Derived.ChangeOld
import Derived.Below
import Derived.SizedLaws
import Derived.Lib.SmallJoins
import Derived.Test.YtlhecfleanppmaaPh
section
set_option linter.unusedVariables false
namespace Go.Proofs.Ytlhecfleanppmaa.Pr
open Go.RowKit Go.Proofs.YtlhecfleanppmaaW.PrintWords Go.Proofs.YtlhecfleanppmaaW.PrintLast Go.Proofs.YtlhecfleanppmaaW.PrintMore Go.Proofs.YFl Go.Proofs.Ytlhecfleanppmaa.Rw

theorem same_loop (n : Nat) (hn : 1 ≤ n ∧ n ≤ 20) (O D : Int) (hO : -1125899906842624 < O ∧ O < 1125899906842624) (hD : 0 ≤ D ∧ D ≤ 1125899906842624) (c3 c4 : Int) (c5 c6 : Bool) : ∀ (d i : Nat) (l : List S26) (c0 : Int), i + d = n → l.length = i → (∀ x ∈ l, x.f1 = O ∧ x.f2 = D) →
    Ev (fun k => foliotlaw13_ChooseSame.l0 k (n : Int) l (i : Int) c0 O D c3 c4 c5 c6) true := by
  intro d
  induction d with
  | zero =>
    intro i l c0 hi hl h
    have hthat : thatOf l = l := thatOf_all (by omega) (fun x hx => by
      have := h x hx
      unfold cnt
      simp only [Bool.and_eq_true, decide_eq_true_eq]
      omega)
    obtain ⟨hm, hs⟩ := same_meet l O D (by rw [hthat]; omega) (by rw [hthat]; exact h)
    rw [hthat] at hs
    refine Ev.two (surv_ev l (by omega)) fun k hk => ?_
    have hm' : choose_Meet.f l = some ((O - D) / 65536 * 65536, -(-(O + D) / 65536) * 65536, true) := by rw [← hm]; rfl
    simp only [foliotlaw13_ChooseSame.l0]
    rw [if_neg (by omega), hm', hk, hs]
    simp only [Option.bind_some]
    rw [if_pos trivial, if_pos (by omega), wrap_small (n := O - D) (by omega), wrap_small (n := O + D) (by omega), if_pos (by omega), wrap_small (n := (O - D) / 65536 * 65536 + 65536) (by omega), if_pos (by omega), if_pos (by omega), wrap_small (n := -(-(O + D) / 65536) * 65536 - 65536) (by omega), decide_eq_true (by omega)]
  | succ d ih =>
    intro i l c0 hi hl h
    refine Ev.two (ih (i + 1) (l ++ [⟨(i : Int), O, D, c3, c4, c5, c6⟩]) (i : Int) (by omega) (by simp; omega) (fun x hx => by
      rcases List.mem_append.1 hx with hx | hx
      · exact h x hx
      · rw [List.mem_singleton.1 hx]; exact ⟨rfl, rfl⟩)) fun k hk => ?_
    simp only [foliotlaw13_ChooseSame.l0]
    rw [if_pos (by omega), if_pos (by omega), wrap_succ i (by omega)]
    exact hk
theorem pure_ChooseSame (c : S26) (hc : Fine c) (n : Int) (hw : (Lit.int .i64 n).wf = true) : ∃ k, foliotlaw13_ChooseSame.f k c.f0 c.f1 c.f2 c.f3 c.f4 c.f5 c.f6 n = some true := by
  have b0 := tmod_bounds n 20 (by omega)
  have b1 := tmod_bounds c.f1 1125899906842624 (by omega)
  have b2 := tmod_bounds c.f2 1125899906842624 (by omega)
  have e1 : wrap64 (Int.tmod n 20 + 20) = Int.tmod n 20 + 20 := wrap_small (by omega)
  have e2 : Int.tmod (Int.tmod n 20 + 20) 20 = (Int.tmod n 20 + 20) % 20 := Int.tmod_eq_emod_of_nonneg (by omega)
  obtain ⟨m, hm⟩ : ∃ m : Nat, (m : Int) = (Int.tmod n 20 + 20) % 20 + 1 := ⟨((Int.tmod n 20 + 20) % 20 + 1).toNat, by omega⟩
  have e3 : wrap64 ((Int.tmod n 20 + 20) % 20 + 1) = (m : Int) := by rw [wrap_small (by omega)]; omega
  obtain ⟨D, hD⟩ : ∃ D, D = mx (Int.tmod c.f2 1125899906842624) (wrap64 (-(Int.tmod c.f2 1125899906842624))) := ⟨_, rfl⟩
  have hDb : 0 ≤ D ∧ D ≤ 1125899906842624 := by
    rw [hD, wrap_small (by omega)]
    unfold mx
    split <;> omega
  obtain ⟨k, hk⟩ := Ev.rounds (same_loop m (by omega) (Int.tmod c.f1 1125899906842624) D (by omega) hDb c.f3 c.f4 c.f5 c.f6 m 0 [] c.f0 (by omega) rfl (by simp))
  refine ⟨k, ?_⟩
  unfold foliotlaw13_ChooseSame.f
  rw [e1, e2, e3, ← hD]
  exact hk
end Go.Proofs.Ytlhecfleanppmaa.Pr
end
section
set_option linter.unusedVariables false
namespace Go.Proofs.Ytlhecfleanppmaa.chooseSame
open Go.ChangeShapes Go.WideShapes Go.ChangeAt Go.RowKit Go.Joins
open Go.Proofs.YtlhecfleanppmaaW.PrintWords Go.Proofs.Ytlhecfleanppmaa.Pr Go.Proofs.Ytlhecfleanppmaa.Rw
theorem own : ownKnob Try.prog.godebug = none := by kernel_rfl
theorem laidOut : laidOutB Try.prog = true := by kernel_rfl
set_option maxRecDepth 100000 in
theorem lifted (os : Os) (started : os.Started) (H : Type) (enc : TypeId × Value → H) :
    ReturnsInHanded {} Try.checked os 6 .any (Rows.chooseSameSpec.pre6 enc Try.prog Try.f6 Rows.chooseSameRow.domain false) (Rows.chooseSameSpec.post enc Try.prog Try.f6 false true false false) := by
  refine returnsInHanded_of_change_sized (C := Try.checked) own started (by kernel_rfl) Try.func6
    (ChangeSpec.witness6 (enc := enc) (C := Try.checked) false ⟨#[], #[.agg #[.int .i64 0, .int .i64 0, .int .i64 0, .int .i64 0, .int .i64 0, .bool false, .bool false], .int .i64 0], []⟩ 8 (by kernel_rfl) (by kernel_rfl) (by kernel_rfl) (by kernel_rfl)) ?_
  intro W base args ds gs before hval0 hW hcnd hsz0 _
  have hval : ∀ (j : Nat) t v, Try.f6.params[j]? = some t → args[j]? = some v → Value.okWide Try.prog W .any base t v := hval0
  have hW' := hW
  obtain ⟨p, q, hA0, hV, rfl, hfz, hnd⟩ := hW
  have hA : DataW.TrodAll enc Try.prog W 0 (fun _ => true) true Try.f6.params.toList args.toList ds p := hA0
  rw [Try.params6] at hA hval
  obtain ⟨v0, vs0, d0, ds0, p0, q0, hargs, rfl, rfl, h0, r0⟩ := trodAll_cons hA
  obtain ⟨v1, vs1, d1, ds1, p1, q1, rfl, rfl, rfl, h1, r1⟩ := trodAll_cons r0
  obtain ⟨rfl, rfl, rfl⟩ := trodAll_nil r1
  obtain rfl : args = #[v0, v1] := by cases args; simp_all
  obtain ⟨rfl, rfl⟩ := trodVars_none hV
  have k0 := h0
  have lt0 : ∀ x ∈ p0, x.block < W.heap.size := by obtain ⟨m, hm⟩ := k0; exact DataW.trod_lt m _ _ _ hm
  obtain ⟨c0, rfl, hf0⟩ := open_cand (hval 0 26 v0 rfl rfl) h0
  obtain ⟨a1, rfl, rfl, rfl, w1⟩ := open_int Try.underlying3 (hval 1 3 v1 rfl rfl) h1
  clear hA0 hval0
  obtain ⟨k, hk⟩ := pure_ChooseSame c0 hf0 a1 w1
  refine (foliotlaw13_ChooseSame.calls k c0.f0 c0.f1 c0.f2 c0.f3 c0.f4 c0.f5 c0.f6 a1 true W  hk).mono fun e W' ⟨he, bel⟩ => ?_
  subst he
  exact ⟨_, rfl, _, _, _, [], _, [], hW', trodAll_mk1 (shut_bool Try.underlying4 _), (trodAll_cons_mk (Below.trod laidOut (by kernel_rfl) (of_decide_eq_true (by kernel_rfl)) k0 bel lt0) (trodAll_cons_mk (shut_int Try.underlying3 w1) trodAll_mk0)), rfl, bel.frame _, fun h => by cases h⟩
theorem over : Rows.chooseSameRow.holds Try.pinned (OpenSpec.ofChange Rows.chooseSameSpec) :=
  OpenClaim.holds_of_wide 6 Try.f6 rfl rfl rfl rfl rfl rfl rfl ⟨rfl, rfl, rfl, rfl, rfl⟩ rfl rfl rfl rfl rfl (by kernel_rfl) Try.func6 (by kernel_rfl)
    (of_decide_eq_true (by kernel_rfl)) (by unfold Func.isWrapper; first | (rw [if_pos (by decide +kernel)]; kernel_rfl) | (rw [if_neg (by decide +kernel)]; exact ⟨rfl, rfl⟩))
    (fun os started H enc _ => lifted os started H enc)
theorem proved : Rows.ChooseSameSaid := over
#print axioms proved
end Go.Proofs.Ytlhecfleanppmaa.chooseSame
namespace Go.Proofs.Ytlhecfleanppmaa
/-- The row, under a short name, for the claim. -/
theorem chooseSame_holds : Rows.ChooseSameSaid := chooseSame.proved
end Go.Proofs.Ytlhecfleanppmaa
end
