/- Who survives, told plainly, of choose and of the document. -/
import Derived.Test.YtlhecfleanppmaaPb
import Derived.Test.YtlhecfleanppmaaPrx23
import Derived.Test.YtlhecfleanppmaaPrx28
set_option linter.unusedVariables false
namespace Go.Proofs.Ytlhecfleanppmaa.Pr
open Go.RowKit Go.Proofs.YtlhecfleanppmaaW.PrintWords Go.Proofs.YtlhecfleanppmaaW.PrintLast Go.Proofs.YtlhecfleanppmaaW.PrintMore Go.Proofs.YFl

/-- a candidate's middle, in whole units -/
def mid (x : S26) : Int := x.f1 / 65536 * 65536
def inB (lo hi : Int) (x : S26) : Bool := decide (lo ≤ mid x) && decide (mid x ≤ hi)
def survOf (l : List S26) : List S26 := if (meetOf l).2.2 = true then (thatOf l).filter (inB (meetOf l).1 (meetOf l).2.1) else []
theorem rd_mem (l : List S26) (i : Nat) (h : i < l.length) : rd_T26 l (i : Int) ∈ l := by
  unfold rd_T26
  rw [Int.toNat_natCast, List.getD_eq_getElem?_getD, List.getElem?_eq_getElem h]
  exact List.getElem_mem h
theorem surv_loop (c : List S26) (hl : c.length ≤ 64) (hc : ∀ x ∈ c, cnt x = true) (lo hi : Int) : ∀ (d i : Nat) (out : List S26), i + d = c.length → out.length ≤ i →
    Ev (fun k => choose_Survivors.l0 k lo hi out c (c.length : Int) (i : Int)) (out ++ (c.drop i).filter (inB lo hi)) := by
  intro d
  induction d with
  | zero =>
    intro i out hi' ho
    refine Ev.end1 fun k => ?_
    simp only [choose_Survivors.l0]
    rw [if_neg (by omega), List.drop_eq_nil_of_le (by omega), List.filter_nil, List.append_nil]
  | succ d ih =>
    intro i out hi' ho
    have hb := cnt_bounds (hc _ (rd_mem c i (by omega)))
    have hw : wrap64 ((rd_T26 c (i : Int)).f1 / 65536 * 65536) = mid (rd_T26 c (i : Int)) := wrap_small (by omega)
    rw [rd_drop c i (by omega)]
    by_cases h1 : lo ≤ mid (rd_T26 c (i : Int))
    · by_cases h2 : mid (rd_T26 c (i : Int)) ≤ hi
      · rw [List.filter_cons_of_pos (by simp [inB, h1, h2]), List.append_cons]
        refine Ev.two (ih (i + 1) (out ++ [rd_T26 c (i : Int)]) (by omega) (by simp; omega)) fun k hk => ?_
        simp only [choose_Survivors.l0]
        rw [if_pos (by omega), if_pos (by omega), if_pos (by omega), hw, if_pos h1, if_pos h2, if_pos (by omega), wrap_succ i (by omega), S26.eta]
        exact hk
      · rw [List.filter_cons_of_neg (by simp [inB, h2])]
        refine Ev.two (ih (i + 1) out (by omega) (by omega)) fun k hk => ?_
        simp only [choose_Survivors.l0]
        rw [if_pos (by omega), if_pos (by omega), if_pos (by omega), hw, if_pos h1, if_neg h2, wrap_succ i (by omega)]
        exact hk
    · rw [List.filter_cons_of_neg (by simp [inB, h1])]
      refine Ev.two (ih (i + 1) out (by omega) (by omega)) fun k hk => ?_
      simp only [choose_Survivors.l0]
      rw [if_pos (by omega), if_pos (by omega), if_pos (by omega), hw, if_neg h1, wrap_succ i (by omega)]
      exact hk
theorem surv_ev (l : List S26) (hn : l.length ≤ 9223372036854775807) : Ev (fun k => choose_Survivors.f k l) (survOf l) := by
  unfold choose_Survivors.f survOf
  have hm : choose_Meet.f l = some (meetOf l) := rfl
  rw [hm]
  simp only [Option.bind_some]
  by_cases hok : (meetOf l).2.2 = true
  · simp only [hok, if_true]
    refine Ev.bind (that_ev l hn) ?_
    exact surv_loop (thatOf l) (thatOf_length l) (thatOf_cnt l) _ _ (thatOf l).length 0 [] (by omega) (by simp)
  · simp only [hok, if_false, Bool.false_eq_true]
    exact Ev.now _
theorem refsurv_loop (c : List S26) (hl : c.length ≤ 64) (hc : ∀ x ∈ c, cnt x = true) (lo hi : Int) : ∀ (d i : Nat) (out : List S26), i + d = c.length → out.length ≤ i →
    Ev (fun k => foliotref13_Survivors.l0 k lo hi true out c (i : Int)) (out ++ (c.drop i).filter (inB lo hi)) := by
  intro d
  induction d with
  | zero =>
    intro i out hi' ho
    refine Ev.end2 fun k => ?_
    simp only [foliotref13_Survivors.l0]
    rw [if_neg (by omega)]
    simp only [foliotref13_Survivors.j1]
    rw [if_neg (by decide), List.drop_eq_nil_of_le (by omega), List.filter_nil, List.append_nil]
  | succ d ih =>
    intro i out hi' ho
    have hb := cnt_bounds (hc _ (rd_mem c i (by omega)))
    have hd : foliotref13_down.f (rd_T26 c (i : Int)).f1 = some ((rd_T26 c (i : Int)).f1 / 65536) := down_eq _ (by omega)
    have hw : wrap64 ((rd_T26 c (i : Int)).f1 / 65536 * 65536) = mid (rd_T26 c (i : Int)) := wrap_small (by omega)
    rw [rd_drop c i (by omega)]
    by_cases h1 : lo ≤ mid (rd_T26 c (i : Int))
    · by_cases h2 : mid (rd_T26 c (i : Int)) ≤ hi
      · rw [List.filter_cons_of_pos (by simp [inB, h1, h2]), List.append_cons]
        refine Ev.three (ih (i + 1) (out ++ [rd_T26 c (i : Int)]) (by omega) (by simp; omega)) fun k hk => ?_
        simp only [foliotref13_Survivors.l0]
        rw [if_pos (by omega)]
        simp only [foliotref13_Survivors.j1]
        rw [if_pos trivial, if_pos (by omega), if_pos (by omega), hd]
        simp only [Option.bind_some]
        rw [hw, if_pos (show mid (rd_T26 c (i : Int)) ≥ lo from h1), if_pos h2, if_pos (by omega), wrap_succ i (by omega), S26.eta]
        exact hk
      · rw [List.filter_cons_of_neg (by simp [inB, h2])]
        refine Ev.three (ih (i + 1) out (by omega) (by omega)) fun k hk => ?_
        simp only [foliotref13_Survivors.l0]
        rw [if_pos (by omega)]
        simp only [foliotref13_Survivors.j1]
        rw [if_pos trivial, if_pos (by omega), if_pos (by omega), hd]
        simp only [Option.bind_some]
        rw [hw, if_pos (show mid (rd_T26 c (i : Int)) ≥ lo from h1), if_neg h2, wrap_succ i (by omega)]
        exact hk
    · rw [List.filter_cons_of_neg (by simp [inB, h1])]
      refine Ev.three (ih (i + 1) out (by omega) (by omega)) fun k hk => ?_
      simp only [foliotref13_Survivors.l0]
      rw [if_pos (by omega)]
      simp only [foliotref13_Survivors.j1]
      rw [if_pos trivial, if_pos (by omega), if_pos (by omega), hd]
      simp only [Option.bind_some]
      rw [hw, if_neg (show ¬ (mid (rd_T26 c (i : Int)) ≥ lo) from h1), wrap_succ i (by omega)]
      exact hk
theorem refsurv_ev (l : List S26) (hn : l.length ≤ 9223372036854775807) : Ev (fun k => foliotref13_Survivors.f k l) (survOf l) := by
  unfold foliotref13_Survivors.f survOf
  refine Ev.bind (refMeet_ev l hn) (Ev.bind (those_ev l hn) ?_)
  by_cases hok : (meetOf l).2.2 = true
  · simp only [hok, if_true]
    exact refsurv_loop (thatOf l) (thatOf_length l) (thatOf_cnt l) _ _ (thatOf l).length 0 [] (by omega) (by simp)
  · have hok' : (meetOf l).2.2 = false := by simpa using hok
    simp only [hok', Bool.false_eq_true, if_false]
    refine Ev.end2 fun k => ?_
    simp only [foliotref13_Survivors.l0]
    split <;> simp only [foliotref13_Survivors.j1] <;> rw [if_neg (by decide)]
end Go.Proofs.Ytlhecfleanppmaa.Pr
