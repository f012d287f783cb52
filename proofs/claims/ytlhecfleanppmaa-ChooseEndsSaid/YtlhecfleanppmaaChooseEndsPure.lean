/- ChooseEnds, told plainly: which candidates fit, and the ends, are the document's. -/
import Derived.Test.YtlhecfleanppmaaPa
import Derived.Test.YtlhecfleanppmaaPrx15
import Derived.Test.YtlhecfleanppmaaRw
set_option linter.unusedVariables false
namespace Go.Proofs.Ytlhecfleanppmaa.Pr
open Go.RowKit Go.Proofs.YtlhecfleanppmaaW.PrintWords Go.Proofs.YtlhecfleanppmaaW.PrintLast Go.Proofs.YtlhecfleanppmaaW.PrintMore Go.Proofs.YFl Go.Proofs.Ytlhecfleanppmaa.Rw

def fit (x : S26) (m : Int) : Bool := cnt x && (decide (x.f2 ≤ m) && (decide (0 ≤ x.f4) && decide (x.f4 < 16)))
theorem fit_a (x : S26) (m : Int) : choose_Fit.f x.f0 x.f1 x.f2 x.f3 x.f4 x.f5 x.f6 m = some (fit x m) := by
  unfold choose_Fit.f fit
  rw [counts_eq]
  simp only [Option.bind_some]
  cases cnt x
  · rfl
  · by_cases h1 : x.f2 ≤ m <;> by_cases h2 : 0 ≤ x.f4 <;> simp [h1, h2]
theorem fit_b (x : S26) (m : Int) : foliotref13_Fit.f x.f0 x.f1 x.f2 x.f3 x.f4 x.f5 x.f6 m = some (fit x m) := by
  unfold foliotref13_Fit.f fit
  rw [refcounts_eq]
  simp only [Option.bind_some]
  cases cnt x
  · rfl
  · by_cases h1 : x.f2 ≤ m <;> by_cases h2 : 0 ≤ x.f4 <;> by_cases h3 : x.f4 < 16 <;> simp [h1, h2, h3]
theorem told_map (a : List Cx) : ∀ (d i : Nat), i + d = a.length → toldFrom a (a.map to54) d i = true
  | 0, _, _ => rfl
  | d + 1, i, h => by
    unfold toldFrom
    rw [to54_rd a i (by omega), told_map a d (i + 1) (by omega)]
    simp [to54]
theorem all_small {l : List Cx} (h : AllSmall l) : l.all smallCx = true := by
  rw [List.all_eq_true]
  intro x hx
  have := h x hx
  simp only [smallCx, Bool.and_eq_true, smallB_iff]
  exact this
theorem asTold_same (a : List Cx) (h : AllSmall a) : foliotlaw13_asTold.f a (a.map to54) = some true := by
  unfold foliotlaw13_asTold.f
  have h2 : (a.map to54).all small54 = true := by
    rw [List.all_map]
    exact all_small h
  rw [all_small h, h2]
  simp only [Bool.and_self, if_true]
  unfold told
  rw [List.length_map, told_map a a.length 0 (by omega)]
  simp
theorem ends_loop (l : List S26) (m : Int) (hn : l.length ≤ 9223372036854775807) : ∀ (d i : Nat), i + d = l.length → Ev (fun k => foliotlaw13_ChooseEnds.l0 k l m (i : Int)) true := by
  intro d
  induction d with
  | zero =>
    intro i hi
    refine Ev.two (all_ev l hn) fun k hk => ?_
    simp only [foliotlaw13_ChooseEnds.l0]
    rw [if_neg (by omega)]
    have e : choose_Ends.f l = some (endsOf l) := rfl
    rw [e, hk]
    simp only [Option.bind_some]
    rw [asTold_same _ (ends_kinds l).small]
    rfl
  | succ d ih =>
    intro i hi
    refine Ev.two (ih (i + 1) (by omega)) fun k hk => ?_
    simp only [foliotlaw13_ChooseEnds.l0]
    rw [if_pos (by omega), if_pos (by omega), fit_a, fit_b]
    simp only [Option.bind_some]
    rw [if_neg (by simp), wrap_succ i (by omega)]
    exact hk
theorem pure_ChooseEnds (l : List S26) (hn : l.length ≤ 9223372036854775807) (hf : ∀ y ∈ l, Fine y) (m : Int) (hm : (Lit.int .i64 m).wf = true) : ∃ k, foliotlaw13_ChooseEnds.f k l m = some true := by
  obtain ⟨k, hk⟩ := Ev.rounds (ends_loop l m hn l.length 0 (by omega))
  refine ⟨k, ?_⟩
  unfold foliotlaw13_ChooseEnds.f
  split
  · rfl
  · exact hk
end Go.Proofs.Ytlhecfleanppmaa.Pr
