/- The law ChooseApart: called with any arguments it returns true, and its arguments read as they did. -/
import Derived.Test.YtlhecfleanppmaaRows
import Derived.Test.YtlhecfleanppmaaPrx27
import Derived.Test.YtlhecfleanppmaaRw
import Derived.WalkKit
import Derived.ProofKit
import Derived.OpenShut
import Derived.ShutString
import Derived.ChangeOld
import Derived.Below
import Derived.SizedLaws
import Derived.Lib.SmallJoins
import Derived.Test.YtlhecfleanppmaaPh
section
set_option linter.unusedVariables false
namespace Go.Proofs.Ytlhecfleanppmaa.Pr
open Go.RowKit Go.Proofs.YtlhecfleanppmaaW.PrintWords Go.Proofs.YtlhecfleanppmaaW.PrintLast Go.Proofs.YtlhecfleanppmaaW.PrintMore Go.Proofs.YFl Go.Proofs.Ytlhecfleanppmaa.Rw

theorem depth_apart {C : List S26} (h : C.Pairwise fun x y => hi x < lo y) (hd : ∀ x ∈ C, lo x ≤ hi x) (a : Int) : depth C a ≤ 1 := by
  induction C with
  | nil => simp [depth]
  | cons x C ih =>
    have h1 := List.pairwise_cons.1 h
    unfold depth at ih ⊢
    rw [List.countP_cons]
    by_cases hx : lo x ≤ a ∧ a ≤ hi x
    · have hz : C.countP (fun y => decide (lo y ≤ a) && decide (a ≤ hi y)) = 0 := countP_allF fun y hy => by
        have := h1.1 y hy
        have : ¬ (lo y ≤ a) := by omega
        simp [this]
      rw [hz]
      split <;> omega
    · have hf : (decide (lo x ≤ a) && decide (a ≤ hi x)) = false := by
        cases hb : (decide (lo x ≤ a) && decide (a ≤ hi x))
        · rfl
        · simp only [Bool.and_eq_true, decide_eq_true_eq] at hb
          exact absurd hb hx
      rw [hf]
      simp only [Bool.false_eq_true, if_false]
      exact ih h1.2 (fun y hy => hd y (List.mem_cons_of_mem _ hy))
theorem nobody (l : List S26) (h2 : 2 ≤ (thatOf l).length) (h : (thatOf l).Pairwise fun x y => hi x < lo y) : (meetOf l).2.2 = false := by
  cases hm : (meetOf l).2.2
  · rfl
  · obtain ⟨f, a, b, hf, _⟩ := meet_found l hm
    have h1 := depth_apart h (fun x hx => by have := lo_md_hi (cnt_f2 l x hx); omega) a
    have h3 := hf.few
    have h4 := hf.lowIn
    omega
/-- the clocks that the law makes: places apart -/
structure Clocks (d : Int) (p : Int) (l : List S26) : Prop where
  each : ∀ x ∈ l, x.f2 = d * 65536 ∧ ∃ q, x.f1 = q * 65536 ∧ 0 ≤ q ∧ q + 2 * d + 1 ≤ p
  apart : l.Pairwise fun x y => hi x < lo y
theorem apart_loop (gaps : List Int) (hg : gaps.length ≤ 60) (hgu : ∀ g ∈ gaps, 0 ≤ g ∧ g ≤ 65535) (h2 : 2 ≤ gaps.length) (d : Int) (hd : 0 ≤ d ∧ d ≤ 255) : ∀ (r i : Nat) (p : Int) (l : List S26), i + r = gaps.length → l.length = i → 0 ≤ p → p ≤ 70000 * (i : Int) → Clocks d p l →
    Ev (fun k => foliotlaw13_ChooseApart.l0 k gaps d (p * 65536) l (i : Int)) true := by
  intro r
  induction r with
  | zero =>
    intro i p l hi hl hp hp2 hc
    have hcnt : ∀ x ∈ l, cnt x = true := fun x hx => by
      obtain ⟨e1, q, e2, e3, e4⟩ := hc.each x hx
      unfold cnt
      simp only [Bool.and_eq_true, decide_eq_true_eq]
      omega
    have hthat : thatOf l = l := thatOf_all (by omega) hcnt
    have hno := nobody l (by rw [hthat]; omega) (by rw [hthat]; exact hc.apart)
    have hs : survOf l = [] := by unfold survOf; rw [hno, if_neg (by decide)]
    obtain ⟨x, l', rfl⟩ : ∃ x l', l = x :: l' := by
      rcases l with _ | ⟨x, l'⟩
      · simp at hl; omega
      · exact ⟨x, l', rfl⟩
    have hone : thatOf [x] = [x] := thatOf_all (by simp) (fun y hy => hcnt y (by rw [List.mem_singleton.1 hy]; simp))
    obtain ⟨hm, _⟩ := same_meet [x] x.f1 x.f2 (by rw [hone]; simp) (by rw [hone]; intro y hy; rw [List.mem_singleton.1 hy]; exact ⟨rfl, rfl⟩)
    refine Ev.two (surv_ev (x :: l') (by omega)) fun k hk => ?_
    have m1 : choose_Meet.f (x :: l') = some (meetOf (x :: l')) := rfl
    have m2 : choose_Meet.f [x] = some ((x.f1 - x.f2) / 65536 * 65536, -(-(x.f1 + x.f2) / 65536) * 65536, true) := by rw [← hm]; rfl
    have ht : (x :: l').take 1 = [x] := rfl
    simp only [foliotlaw13_ChooseApart.l0]
    rw [if_neg (by omega), m1]
    simp only [Option.bind_some]
    rw [if_pos (by omega), ht, m2]
    simp only [Option.bind_some]
    rw [if_pos trivial, hno, if_neg (by decide), hk, hs]
    rfl
  | succ r ih =>
    intro i p l hi' hl hp hp2 hc
    obtain ⟨g, hg0⟩ : ∃ g, g = rd gaps (i : Int) := ⟨_, rfl⟩
    have hgb : 0 ≤ g ∧ g ≤ 65535 := by
      refine hgu g ?_
      rw [hg0]
      unfold rd
      rw [Int.toNat_natCast, List.getD_eq_getElem?_getD, List.getElem?_eq_getElem (by omega)]
      exact List.getElem_mem _
    have hnext : Clocks d (p + g + 2 * d + 1) (l ++ [⟨(i : Int), p * 65536, d * 65536, 0, 0, false, false⟩]) := by
      refine ⟨fun x hx => ?_, ?_⟩
      · rcases List.mem_append.1 hx with hx | hx
        · obtain ⟨e1, q, e2, e3, e4⟩ := hc.each x hx
          exact ⟨e1, q, e2, e3, by omega⟩
        · rw [List.mem_singleton.1 hx]
          exact ⟨rfl, p, rfl, hp, by omega⟩
      · refine List.pairwise_append.2 ⟨hc.apart, by simp, fun x hx y hy => ?_⟩
        rw [List.mem_singleton.1 hy]
        obtain ⟨e1, q, e2, e3, e4⟩ := hc.each x hx
        unfold Pr.hi lo
        simp only
        rw [e1, e2]
        omega
    refine Ev.two (ih (i + 1) (p + g + 2 * d + 1) _ (by omega) (by simp; omega) (by omega) (by omega) hnext) fun k hk => ?_
    simp only [foliotlaw13_ChooseApart.l0]
    rw [if_pos (by omega), if_pos (by omega), if_pos (by omega), ← hg0, wrap_small (n := g) (by omega), wrap_small (n := g * 65536) (by omega), wrap_small (n := d) (by omega), wrap_small (n := 2 * d) (by omega), wrap_small (n := 2 * d + 1) (by omega), wrap_small (n := (2 * d + 1) * 65536) (by omega), wrap_small (n := g * 65536 + (2 * d + 1) * 65536) (by omega), wrap_small (n := p * 65536 + (g * 65536 + (2 * d + 1) * 65536)) (by omega), wrap_small (n := d * 65536) (by omega), wrap_succ i (by omega)]
    rw [show p * 65536 + (g * 65536 + (2 * d + 1) * 65536) = (p + g + 2 * d + 1) * 65536 by omega]
    exact hk
theorem pure_ChooseApart (gaps : List Int) (hn : gaps.length ≤ 9223372036854775807) (hf : ∀ y ∈ gaps, (Lit.int .u16 y).wf = true) (d : Int) (hw : (Lit.int .u8 d).wf = true) : ∃ k, foliotlaw13_ChooseApart.f k gaps d = some true := by
  have hd := bounds_u8 hw
  by_cases h2 : (gaps.length : Int) < 2
  · refine ⟨1, ?_⟩
    unfold foliotlaw13_ChooseApart.f
    rw [if_pos h2]
    simp only [foliotlaw13_ChooseApart.j0, if_true]
  · by_cases h60 : (gaps.length : Int) > 60
    · refine ⟨1, ?_⟩
      unfold foliotlaw13_ChooseApart.f
      rw [if_neg h2, decide_eq_true h60]
      simp only [foliotlaw13_ChooseApart.j0, if_true]
    · obtain ⟨k, hk⟩ := Ev.rounds (apart_loop gaps (by omega) (fun g hg => bounds_u16 (hf g hg)) (by omega) d hd gaps.length 0 0 [] (by omega) rfl (by omega) (by omega) ⟨by simp, by simp⟩)
      refine ⟨k + 1, ?_⟩
      unfold foliotlaw13_ChooseApart.f
      rw [if_neg h2, decide_eq_false h60]
      simp only [foliotlaw13_ChooseApart.j0, Bool.false_eq_true, if_false]
      exact hk
end Go.Proofs.Ytlhecfleanppmaa.Pr
end
section
set_option linter.unusedVariables false
namespace Go.Proofs.Ytlhecfleanppmaa.chooseApart
open Go.ChangeShapes Go.WideShapes Go.ChangeAt Go.RowKit Go.Joins
open Go.Proofs.YtlhecfleanppmaaW.PrintWords Go.Proofs.Ytlhecfleanppmaa.Pr Go.Proofs.Ytlhecfleanppmaa.Rw
theorem own : ownKnob Try.prog.godebug = none := by kernel_rfl
theorem laidOut : laidOutB Try.prog = true := by kernel_rfl
set_option maxRecDepth 100000 in
theorem lifted (os : Os) (started : os.Started) (H : Type) (enc : TypeId × Value → H) :
    ReturnsInHanded {} Try.checked os 7 .any (Rows.chooseApartSpec.pre6 enc Try.prog Try.f7 Rows.chooseApartRow.domain false) (Rows.chooseApartSpec.post enc Try.prog Try.f7 false true false false) := by
  refine returnsInHanded_of_change_sized (C := Try.checked) own started (by kernel_rfl) Try.func7
    (ChangeSpec.witness6 (enc := enc) (C := Try.checked) false ⟨#[], #[.slice none 0 0, .int .u8 0], []⟩ 8 (by kernel_rfl) (by kernel_rfl) (by kernel_rfl) (by kernel_rfl)) ?_
  intro W base args ds gs before hval0 hW hcnd hsz0 _
  have hval : ∀ (j : Nat) t v, Try.f7.params[j]? = some t → args[j]? = some v → Value.okWide Try.prog W .any base t v := hval0
  have hW' := hW
  obtain ⟨p, q, hA0, hV, rfl, hfz, hnd⟩ := hW
  have hA : DataW.TrodAll enc Try.prog W 0 (fun _ => true) true Try.f7.params.toList args.toList ds p := hA0
  rw [Try.params7] at hA hval
  obtain ⟨v0, vs0, d0, ds0, p0, q0, hargs, rfl, rfl, h0, r0⟩ := trodAll_cons hA
  obtain ⟨v1, vs1, d1, ds1, p1, q1, rfl, rfl, rfl, h1, r1⟩ := trodAll_cons r0
  obtain ⟨rfl, rfl, rfl⟩ := trodAll_nil r1
  obtain rfl : args = #[v0, v1] := by cases args; simp_all
  obtain ⟨rfl, rfl⟩ := trodVars_none hV
  obtain ⟨a0, len0, cap0, rfl⟩ := okWide_slice Try.underlying43 (hval 0 43 v0 rfl rfl)
  have k0 := h0
  have lt0 : ∀ x ∈ p0, x.block < W.heap.size := by obtain ⟨m, hm⟩ := k0; exact DataW.trod_lt m _ _ _ hm
  obtain ⟨l0, hl0, hcap0, hr0, hf0⟩ := open_nums Try.underlying43 Try.underlying45 (by kernel_rfl) (show DataW.trod enc Try.prog W 0 (fun _ => true) true (Classical.choose h0) 43 [.slice a0 len0 cap0] = some (d0, p0) from Classical.choose_spec h0)
  subst hl0
  obtain ⟨a1, rfl, rfl, rfl, w1⟩ := open_int Try.underlying5 (hval 1 5 v1 rfl rfl) h1
  clear hA0 hval0
  obtain ⟨k, hk⟩ := pure_ChooseApart l0 hr0.2.1 hf0 a1 w1
  refine (foliotlaw13_ChooseApart.calls k _ _ l0 a1 true W hr0 hcap0 hk).mono fun e W' ⟨he, bel⟩ => ?_
  subst he
  exact ⟨_, rfl, _, _, _, [], _, [], hW', trodAll_mk1 (shut_bool Try.underlying4 _), (trodAll_cons_mk (Below.trod laidOut (by kernel_rfl) (of_decide_eq_true (by kernel_rfl)) k0 bel lt0) (trodAll_cons_mk (shut_int Try.underlying5 w1) trodAll_mk0)), rfl, bel.frame _, fun h => by cases h⟩
theorem over : Rows.chooseApartRow.holds Try.pinned (OpenSpec.ofChange Rows.chooseApartSpec) :=
  OpenClaim.holds_of_wide 7 Try.f7 rfl rfl rfl rfl rfl rfl rfl ⟨rfl, rfl, rfl, rfl, rfl⟩ rfl rfl rfl rfl rfl (by kernel_rfl) Try.func7 (by kernel_rfl)
    (of_decide_eq_true (by kernel_rfl)) (by unfold Func.isWrapper; first | (rw [if_pos (by decide +kernel)]; kernel_rfl) | (rw [if_neg (by decide +kernel)]; exact ⟨rfl, rfl⟩))
    (fun os started H enc _ => lifted os started H enc)
theorem proved : Rows.ChooseApartSaid := over
#print axioms proved
end Go.Proofs.Ytlhecfleanppmaa.chooseApart
namespace Go.Proofs.Ytlhecfleanppmaa
/-- The row, under a short name, for the claim. -/
theorem chooseApart_holds : Rows.ChooseApartSaid := chooseApart.proved
end Go.Proofs.Ytlhecfleanppmaa
end
