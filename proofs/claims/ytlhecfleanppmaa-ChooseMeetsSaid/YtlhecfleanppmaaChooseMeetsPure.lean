/- ChooseMeets, told plainly. -/
import Derived.Test.YtlhecfleanppmaaPd
import Derived.Test.YtlhecfleanppmaaPrx29
set_option linter.unusedVariables false
namespace Go.Proofs.Ytlhecfleanppmaa.Pr
open Go.RowKit Go.Proofs.YtlhecfleanppmaaW.PrintWords Go.Proofs.YtlhecfleanppmaaW.PrintLast Go.Proofs.YtlhecfleanppmaaW.PrintMore Go.Proofs.YFl Go.Proofs.Ytlhecfleanppmaa.Rw

theorem meets_loop (s : List S26) (hs : s.length ≤ 64) : ∀ (d i : Nat) (x : List S26), i + d = x.length → x.length ≤ 300 → Ev (fun k => foliotlaw13_ChooseMeets.l0 k x s s (i : Int)) true := by
  intro d
  induction d with
  | zero =>
    intro i x hi hx
    refine Ev.two (sameCands_ev s (by omega)) fun k hk => ?_
    simp only [foliotlaw13_ChooseMeets.l0]
    rw [if_neg (by omega), hk]
    rfl
  | succ d ih =>
    intro i x hi hx
    refine Ev.two (ih (i + 1) (x.set i ⟨-9, 0, 0, 0, 0, false, false⟩) (by rw [List.length_set]; omega) (by rw [List.length_set]; omega)) fun k hk => ?_
    simp only [foliotlaw13_ChooseMeets.l0]
    rw [if_pos (by omega), if_pos (by omega), wrap_succ i (by omega), Int.toNat_natCast]
    exact hk
theorem pure_ChooseMeets (l : List S26) (hn : l.length ≤ 9223372036854775807) (hf : ∀ y ∈ l, Fine y) : ∃ k, foliotlaw13_ChooseMeets.f k l = some true := by
  by_cases h256 : (l.length : Int) > 256
  · exact ⟨0, by unfold foliotlaw13_ChooseMeets.f; rw [if_pos h256]⟩
  · have hl : l.length ≤ 256 := by omega
    have hs := surv_length l
    have e1 := meets_loop (survOf l) hs (l.length + 1) 0 (l ++ [⟨-7, 0, 0, 0, 0, false, false⟩]) (by simp) (by simp; omega)
    obtain ⟨K1, g1⟩ := e1
    obtain ⟨K2, g2⟩ := refMeet_ev l hn
    obtain ⟨K3, g3⟩ := surv_ev l hn
    obtain ⟨K4, g4⟩ := refsurv_ev l hn
    obtain ⟨K5, g5⟩ := sameCands_ev (survOf l) (by omega)
    obtain ⟨K6, g6⟩ := sameCands_ev l hn
    refine ⟨K1 + K2 + K3 + K4 + K5 + K6 + 1, ?_⟩
    have m1 := g1 (K1 + K2 + K3 + K4 + K5 + K6) (by omega)
    have m2 := g2 (K1 + K2 + K3 + K4 + K5 + K6 + 1) (by omega)
    have m3 := g3 (K1 + K2 + K3 + K4 + K5 + K6 + 1) (by omega)
    have m4 := g4 (K1 + K2 + K3 + K4 + K5 + K6 + 1) (by omega)
    have m5 := g5 (K1 + K2 + K3 + K4 + K5 + K6 + 1) (by omega)
    have m6 := g6 (K1 + K2 + K3 + K4 + K5 + K6 + 1) (by omega)
    dsimp only at m1 m2 m3 m4 m5 m6
    have hm : choose_Meet.f l = some (meetOf l) := rfl
    have ht : (l ++ [(⟨-7, 0, 0, 0, 0, false, false⟩ : S26)]).take ((l.length : Int)).toNat = l := by rw [Int.toNat_natCast, List.take_left]
    unfold foliotlaw13_ChooseMeets.f
    rw [if_neg h256]
    simp only [Option.bind_some, List.nil_append, List.length_nil]
    rw [if_pos (by omega), if_pos (by omega), if_pos (by omega), if_pos (by simp; omega), ht, hm, m2, m3, m4]
    simp only [Option.bind_some]
    rw [if_pos trivial, if_pos trivial, if_neg (by simp), m5]
    simp only [Option.bind_some]
    rw [if_pos trivial, m6]
    simp only [Option.bind_some]
    rw [if_pos trivial, if_pos (by simp; omega)]
    have hr : (rd_T26 (l ++ [(⟨-7, 0, 0, 0, 0, false, false⟩ : S26)]) (l.length : Int)).f0 = -7 := by
      unfold rd_T26
      rw [Int.toNat_natCast, List.getD_eq_getElem?_getD, List.getElem?_append_right (Nat.le_refl _)]
      simp
    rw [hr]
    simp only [foliotlaw13_ChooseMeets.j0]
    rw [if_neg (by decide)]
    exact m1
end Go.Proofs.Ytlhecfleanppmaa.Pr
