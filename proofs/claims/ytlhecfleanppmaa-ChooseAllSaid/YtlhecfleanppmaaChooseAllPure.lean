/- ChooseAll, told plainly: an offset that all intervals hold lies between the two points. -/
import Derived.Test.YtlhecfleanppmaaPg
import Derived.Test.YtlhecfleanppmaaPrx20
set_option linter.unusedVariables false
namespace Go.Proofs.Ytlhecfleanppmaa.Pr
open Go.RowKit Go.Proofs.YtlhecfleanppmaaW.PrintWords Go.Proofs.YtlhecfleanppmaaW.PrintLast Go.Proofs.YtlhecfleanppmaaW.PrintMore Go.Proofs.YFl Go.Proofs.Ytlhecfleanppmaa.Rw

theorem all_end (l : List S26) (t : Int) (ht : -2147483648 ≤ t ∧ t ≤ 2147483647) (hl : l.length ≤ 60) (i : Nat) (hi : i = l.length) : Ev (fun k => foliotlaw13_ChooseAll.l0 k l t (l.map (nearOf t)) (i : Int)) true := by
  refine Ev.two (refMeet_ev (l.map (nearOf t)) (by rw [List.length_map]; omega)) fun k hk => ?_
  have hm : choose_Meet.f (l.map (nearOf t)) = some (meetOf (l.map (nearOf t))) := rfl
  have hthat : thatOf (l.map (nearOf t)) = l.map (nearOf t) := thatOf_all (by rw [List.length_map]; omega) (fun x hx => by
    obtain ⟨y, _, rfl⟩ := List.mem_map.1 hx
    exact near_cnt y t ht)
  simp only [foliotlaw13_ChooseAll.l0]
  rw [if_neg (by omega), hm, hk]
  simp only [Option.bind_some]
  rw [if_pos (by simp), wrap_small (n := t) (by omega)]
  by_cases hok : (meetOf (l.map (nearOf t))).2.2 = true
  · rw [if_pos hok]
    obtain ⟨f, a, b, hf, he⟩ := meet_found _ hok
    obtain ⟨x, hx, hxa⟩ := hf.isLow
    obtain ⟨y, hy, hyb⟩ := hf.isHigh
    rw [hthat] at hx hy
    obtain ⟨x0, _, rfl⟩ := List.mem_map.1 hx
    obtain ⟨y0, _, rfl⟩ := List.mem_map.1 hy
    have bx := near_bounds x0 t ht
    have by' := near_bounds y0 t ht
    unfold lo at hxa
    unfold Pr.hi at hyb
    rw [he]
    simp only
    rw [if_pos (by omega), decide_eq_true (by omega)]
  · rw [if_neg hok]
theorem all_loop' (l : List S26) (t : Int) (ht : -2147483648 ≤ t ∧ t ≤ 2147483647) (hl : l.length ≤ 60) : ∀ (d i : Nat), i + d = l.length → Ev (fun k => foliotlaw13_ChooseAll.l0 k l t ((l.take i).map (nearOf t)) (i : Int)) true := by
  intro d
  induction d with
  | zero =>
    intro i hi
    rw [List.take_of_length_le (show l.length ≤ i by omega)]
    exact all_end l t ht hl i (by omega)
  | succ d ih =>
    intro i hi
    have g := ih (i + 1) (by omega)
    rw [take_rd l i (by omega), List.map_append] at g
    refine Ev.two g fun k hk => ?_
    simp only [foliotlaw13_ChooseAll.l0]
    rw [if_pos (by omega), if_pos (by omega), wrap_small (n := t) (by omega), near_eq _ t ht]
    simp only [Option.bind_some]
    rw [if_pos (by rw [List.length_map, List.length_take]; omega), wrap_succ i (by omega), S26.eta]
    exact hk
theorem pure_ChooseAll (l : List S26) (hn : l.length ≤ 9223372036854775807) (hf : ∀ y ∈ l, Fine y) (t : Int) (hw : (Lit.int .i32 t).wf = true) : ∃ k, foliotlaw13_ChooseAll.f k l t = some true := by
  have ht := bounds_i32 hw
  by_cases h0 : (l.length : Int) = 0
  · refine ⟨1, ?_⟩
    unfold foliotlaw13_ChooseAll.f
    rw [if_pos h0]
    simp only [foliotlaw13_ChooseAll.j0, if_true]
  · by_cases h60 : (l.length : Int) > 60
    · refine ⟨1, ?_⟩
      unfold foliotlaw13_ChooseAll.f
      rw [if_neg h0, decide_eq_true h60]
      simp only [foliotlaw13_ChooseAll.j0, if_true]
    · obtain ⟨k, hk⟩ := Ev.rounds (all_loop' l t ht (by omega) l.length 0 (by omega))
      refine ⟨k + 1, ?_⟩
      unfold foliotlaw13_ChooseAll.f
      rw [if_neg h0, decide_eq_false h60]
      simp only [foliotlaw13_ChooseAll.j0, Bool.false_eq_true, if_false]
      exact hk
end Go.Proofs.Ytlhecfleanppmaa.Pr
