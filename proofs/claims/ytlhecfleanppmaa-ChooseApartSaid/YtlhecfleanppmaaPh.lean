/- Clocks that say the same: all survive, and meet in their interval. -/
import Derived.Test.YtlhecfleanppmaaPg
set_option linter.unusedVariables false
namespace Go.Proofs.Ytlhecfleanppmaa.Pr
open Go.RowKit Go.Proofs.YtlhecfleanppmaaW.PrintWords Go.Proofs.YtlhecfleanppmaaW.PrintLast Go.Proofs.YtlhecfleanppmaaW.PrintMore Go.Proofs.YFl Go.Proofs.Ytlhecfleanppmaa.Rw

theorem countP_allT {C : List S26} {p : S26 → Bool} (h : ∀ x ∈ C, p x = true) : C.countP p = C.length := List.countP_eq_length.2 h
theorem countP_allF {C : List S26} {p : S26 → Bool} (h : ∀ x ∈ C, p x = false) : C.countP p = 0 := by
  rw [List.countP_eq_zero]
  intro x hx
  rw [h x hx]
  decide
theorem same_meet (l : List S26) (O D : Int) (hne : 1 ≤ (thatOf l).length) (h : ∀ x ∈ thatOf l, x.f1 = O ∧ x.f2 = D) :
    meetOf l = ((O - D) / 65536 * 65536, -(-(O + D) / 65536) * 65536, true) ∧ survOf l = thatOf l := by
  obtain ⟨x0, hx0⟩ : ∃ x, x ∈ thatOf l := by
    rcases hc : thatOf l with _ | ⟨x, r⟩
    · rw [hc] at hne; simp at hne
    · exact ⟨x, by simp⟩
  have hD : 0 ≤ D := by have := (h x0 hx0).2; have := cnt_f2 l x0 hx0; omega
  obtain ⟨L, hL⟩ : ∃ L, L = (O - D) / 65536 := ⟨_, rfl⟩
  obtain ⟨M, hM⟩ : ∃ M, M = O / 65536 := ⟨_, rfl⟩
  obtain ⟨U, hU⟩ : ∃ U, U = -(-(O + D) / 65536) := ⟨_, rfl⟩
  have hlo : ∀ x ∈ thatOf l, lo x = L := fun x hx => by unfold lo; rw [(h x hx).1, (h x hx).2, hL]
  have hmd : ∀ x ∈ thatOf l, md x = M := fun x hx => by unfold md; rw [(h x hx).1, hM]
  have hhi : ∀ x ∈ thatOf l, hi x = U := fun x hx => by unfold hi; rw [(h x hx).1, (h x hx).2, hU]
  have h1 : L ≤ M := by omega
  have h2 : M ≤ U := by omega
  have hdep : ∀ a, L ≤ a → a ≤ U → depth (thatOf l) a = (thatOf l).length := fun a g1 g2 => countP_allT fun x hx => by
    rw [hlo x hx, hhi x hx]
    simp [g1, g2]
  rcases hu : ptf 1 (((thatOf l).length : Int) - ((0 : Nat) : Int)) (endsOf l) 0 0 with _ | ⟨a, m1⟩
  · exact absurd hu (low_exists (by omega) L (by rw [hdep L (by omega) (by omega)]; omega))
  · rcases hv : ptf (-1) (((thatOf l).length : Int) - ((0 : Nat) : Int)) (endsOf l).reverse 0 0 with _ | ⟨b, m2⟩
    · exact absurd hv (high_exists (by omega) L (by rw [hdep L (by omega) (by omega)]; omega))
    · obtain ⟨⟨x, hx, hxa⟩, g2, g3⟩ := low_cand (by omega) hu
      obtain ⟨⟨y, hy, hyb⟩, k2, k3⟩ := high_cand (by omega) hv
      have ea : a = L := by rw [← hxa]; exact hlo x hx
      have eb : b = U := by rw [← hyb]; exact hhi y hy
      subst ea eb
      rw [countP_allF (fun z hz => by rw [hmd z hz]; exact decide_eq_false (by omega))] at g2 k2
      have hgood : goodF (ptRes (some (a, m1))) (ptRes (some (b, m2))) ((0 : Nat) : Int) = true := by
        show (true && (true && (decide (m1 + m2 ≤ ((0 : Nat) : Int)) && decide (a ≤ b)))) = true
        rw [decide_eq_true (show m1 + m2 ≤ ((0 : Nat) : Int) by omega), decide_eq_true (show a ≤ b by omega)]
        rfl
      have hm : meetOf l = (a * 65536, b * 65536, true) := by
        unfold meetOf
        show (if 2 * 0 < (thatOf l).length then _ else _) = _
        rw [if_pos (by omega), hu, hv, hgood, if_pos rfl]
        rfl
      rw [hm, hL, hU]
      refine ⟨rfl, ?_⟩
      rw [surv_mem hm]
      exact List.filter_eq_self.2 fun z hz => by
        rw [hmd z hz]
        simp [h1, h2]
end Go.Proofs.Ytlhecfleanppmaa.Pr
