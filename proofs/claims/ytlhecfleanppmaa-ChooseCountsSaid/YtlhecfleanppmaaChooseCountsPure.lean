/- ChooseCounts, told plainly: candidates that do not count change nothing. -/
import Derived.Test.YtlhecfleanppmaaPd
import Derived.Test.YtlhecfleanppmaaPrx25
set_option linter.unusedVariables false
namespace Go.Proofs.Ytlhecfleanppmaa.Pr
open Go.RowKit Go.Proofs.YtlhecfleanppmaaW.PrintWords Go.Proofs.YtlhecfleanppmaaW.PrintLast Go.Proofs.YtlhecfleanppmaaW.PrintMore Go.Proofs.YFl Go.Proofs.Ytlhecfleanppmaa.Rw

theorem lawcounts_eq (x : S26) : foliotlaw13_counts.f x.f0 x.f1 x.f2 x.f3 x.f4 x.f5 x.f6 = some (cnt x) := counts_eq x
theorem thatOf_short (l : List S26) (h : l.length ≤ 64) : thatOf l = l.filter cnt := by
  rw [thatOf_eq, List.take_of_length_le]
  exact Nat.le_trans (List.length_filter_le _ _) h
theorem counts_end (l : List S26) (hl : l.length ≤ 60) (i : Nat) (hi : i = l.length) : Ev (fun k => foliotlaw13_ChooseCounts.l0 k l (l.filter cnt) (i : Int)) true := by
  have hlen : (l.filter cnt).length ≤ 60 := Nat.le_trans (List.length_filter_le _ _) hl
  have ht : thatOf (l.filter cnt) = thatOf l := by
    rw [thatOf_short _ (by omega), thatOf_short _ (by omega), List.filter_filter]
    congr 1
    funext x
    simp
  have hraw : rawEnds (l.filter cnt) = rawEnds l := by unfold rawEnds; rw [ht]
  have hends : endsOf (l.filter cnt) = endsOf l := by unfold endsOf; rw [hraw]
  have hmeet : meetOf (l.filter cnt) = meetOf l := by unfold meetOf; rw [hends, ht]
  have hsurv : survOf (l.filter cnt) = survOf l := by unfold survOf; rw [hmeet, ht]
  have hs := surv_length l
  obtain ⟨K1, g1⟩ := surv_ev l (by omega)
  obtain ⟨K2, g2⟩ := surv_ev (l.filter cnt) (by omega)
  obtain ⟨K3, g3⟩ := sameCands_ev (survOf l) (by omega)
  refine ⟨K1 + K2 + K3 + 1, fun k hk => ?_⟩
  obtain ⟨k, rfl⟩ : ∃ m, k = m + 1 := ⟨k - 1, by omega⟩
  have m1 := g1 k (by omega)
  have m2 := g2 k (by omega)
  have m3 := g3 k (by omega)
  dsimp only at m1 m2 m3
  rw [hsurv] at m2
  have a1 : choose_Meet.f l = some (meetOf l) := rfl
  have a2 : choose_Meet.f (l.filter cnt) = some (meetOf l) := by rw [← hmeet]; rfl
  have b1 : choose_Ends.f l = some (endsOf l) := rfl
  have b2 : choose_Ends.f (l.filter cnt) = some (endsOf l) := by rw [← hends]; rfl
  simp only [foliotlaw13_ChooseCounts.l0]
  rw [if_neg (by omega), a1, a2, m1, m2, b1, b2]
  simp only [Option.bind_some]
  rw [if_pos trivial, if_pos trivial, if_pos (by simp), m3]
  simp only [Option.bind_some]
  rw [if_pos trivial, sameEnds_self _ (ends_kinds l).small]
  simp only [Option.bind_some]
  rw [if_pos trivial, ends_length, ← ht, thatOf_short _ (by omega), List.filter_filter]
  have e : l.filter (fun a => cnt a && cnt a) = l.filter cnt := by
    congr 1
    funext x
    simp
  rw [e, wrap_small (by omega)]
  congr 1
  rw [beq_iff_eq]
  omega
theorem counts_loop (l : List S26) (hl : l.length ≤ 60) : ∀ (d i : Nat), i + d = l.length → Ev (fun k => foliotlaw13_ChooseCounts.l0 k l ((l.take i).filter cnt) (i : Int)) true := by
  intro d
  induction d with
  | zero =>
    intro i hi
    have e : l.take i = l := List.take_of_length_le (by omega)
    rw [e]
    exact counts_end l hl i (by omega)
  | succ d ih =>
    intro i hi
    have e : l.take (i + 1) = l.take i ++ [rd_T26 l (i : Int)] := by
      rw [List.take_succ_eq_append_getElem (by omega)]
      congr 2
      unfold rd_T26
      rw [Int.toNat_natCast, List.getD_eq_getElem?_getD, List.getElem?_eq_getElem (by omega)]
      rfl
    have g := ih (i + 1) (by omega)
    rw [e, List.filter_append] at g
    have hlen : ((l.take i).filter cnt).length ≤ 60 := Nat.le_trans (List.length_filter_le _ _) (by rw [List.length_take]; omega)
    refine Ev.two g fun k hk => ?_
    simp only [foliotlaw13_ChooseCounts.l0]
    rw [if_pos (by omega), if_pos (by omega), lawcounts_eq]
    simp only [Option.bind_some, S26.eta]
    rw [wrap_succ i (by omega)]
    by_cases hc : cnt (rd_T26 l (i : Int)) = true
    · rw [if_pos hc, if_pos (by omega)]
      rw [List.filter_cons_of_pos hc, List.filter_nil] at hk
      exact hk
    · rw [if_neg hc]
      rw [List.filter_cons_of_neg hc, List.filter_nil, List.append_nil] at hk
      exact hk
theorem pure_ChooseCounts (l : List S26) (hn : l.length ≤ 9223372036854775807) (hf : ∀ y ∈ l, Fine y) : ∃ k, foliotlaw13_ChooseCounts.f k l = some true := by
  by_cases h60 : (l.length : Int) > 60
  · exact ⟨0, by unfold foliotlaw13_ChooseCounts.f; rw [if_pos h60]⟩
  · obtain ⟨k, hk⟩ := Ev.rounds (counts_loop l (by omega) l.length 0 (by omega))
    exact ⟨k, by unfold foliotlaw13_ChooseCounts.f; rw [if_neg h60]; exact hk⟩
end Go.Proofs.Ytlhecfleanppmaa.Pr
