/- Comparing lists of candidates, or of ends, with themselves; who counts, for the law. -/
import Derived.Test.YtlhecfleanppmaaPc
import Derived.Test.YtlhecfleanppmaaPrx22
import Derived.Test.YtlhecfleanppmaaRw
set_option linter.unusedVariables false
namespace Go.Proofs.Ytlhecfleanppmaa.Pr
open Go.RowKit Go.Proofs.YtlhecfleanppmaaW.PrintWords Go.Proofs.YtlhecfleanppmaaW.PrintLast Go.Proofs.YtlhecfleanppmaaW.PrintMore Go.Proofs.YFl Go.Proofs.Ytlhecfleanppmaa.Rw

theorem sameCands_loop (a : List S26) (hn : a.length ≤ 9223372036854775807) : ∀ (d i : Nat), i + d = a.length → Ev (fun k => foliotlaw13_sameCands.l0 k a a (i : Int)) true := by
  intro d
  induction d with
  | zero =>
    intro i hi
    refine Ev.end1 fun k => ?_
    simp only [foliotlaw13_sameCands.l0]
    rw [if_neg (by omega)]
  | succ d ih =>
    intro i hi
    refine Ev.two (ih (i + 1) (by omega)) fun k hk => ?_
    simp only [foliotlaw13_sameCands.l0]
    rw [if_pos (by omega), if_pos (by omega), if_pos (by omega), if_neg (by simp), wrap_succ i (by omega)]
    exact hk
theorem sameCands_ev (a : List S26) (hn : a.length ≤ 9223372036854775807) : Ev (fun k => foliotlaw13_sameCands.f k a a) true := by
  unfold foliotlaw13_sameCands.f
  simp only [if_true]
  exact sameCands_loop a hn a.length 0 (by omega)
theorem same_self (a : List Cx) : ∀ (d i : Nat), sameFrom a a d i = true
  | 0, _ => rfl
  | d + 1, i => by unfold sameFrom; rw [same_self a d (i + 1)]; simp
theorem all_small {l : List Cx} (h : AllSmall l) : l.all smallCx = true := by
  rw [List.all_eq_true]
  intro x hx
  have := h x hx
  simp only [smallCx, Bool.and_eq_true, smallB_iff]
  exact this
theorem sameEnds_self (a : List Cx) (h : AllSmall a) : foliotlaw13_sameEnds.f a a = some true := by
  unfold foliotlaw13_sameEnds.f
  rw [all_small h]
  simp only [Bool.and_self, if_true]
  unfold same
  rw [same_self]
  simp
theorem surv_length (l : List S26) : (survOf l).length ≤ 64 := by
  unfold survOf
  split
  · exact Nat.le_trans (List.length_filter_le _ _) (thatOf_length l)
  · simp
end Go.Proofs.Ytlhecfleanppmaa.Pr
