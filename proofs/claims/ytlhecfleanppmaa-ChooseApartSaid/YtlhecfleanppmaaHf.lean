/- Which candidates count, told plainly; the machine's calls of choose.Ends and choose.Meet. -/
import Derived.Test.YtlhecfleanppmaaHb
import Derived.Test.YtlhecfleanppmaaHd
import Derived.Test.YtlhecfleanppmaaHe
set_option linter.unusedVariables false
namespace Go.Proofs.Ytlhecfleanppmaa.Pr
open Go.RowKit Go.Proofs.YtlhecfleanppmaaW.PrintWords Go.Proofs.YtlhecfleanppmaaW.PrintLast Go.Proofs.YtlhecfleanppmaaW.PrintMore Go.Proofs.YFl

def cnt (x : S26) : Bool := decide (0 ≤ x.f2) && decide (x.f2 ≤ 4503599627370496) && decide (-1152921504606846976 ≤ x.f1) && decide (x.f1 ≤ 1152921504606846976)
theorem thatOf_eq (l : List S26) : thatOf l = (l.filter cnt).take 64 := rfl
theorem counts_eq (x : S26) : choose_counts.f x.f0 x.f1 x.f2 x.f3 x.f4 x.f5 x.f6 = some (cnt x) := by
  unfold choose_counts.f cnt
  by_cases h1 : x.f2 ≥ 0
  · by_cases h2 : x.f2 ≤ 4503599627370496
    · by_cases h3 : x.f1 ≥ -1152921504606846976
      · rw [if_pos h1, if_pos h2, if_pos h3]
        have h1' : 0 ≤ x.f2 := h1
        have h3' : -1152921504606846976 ≤ x.f1 := h3
        simp [h1', h2, h3']
      · rw [if_pos h1, if_pos h2, if_neg h3]
        have h3' : ¬ (-1152921504606846976 ≤ x.f1) := h3
        simp [h3']
    · rw [if_pos h1, if_neg h2]
      simp [h2]
  · rw [if_neg h1]
    have h1' : ¬ (0 ≤ x.f2) := h1
    simp [h1']
theorem S26.eta (x : S26) : (⟨x.f0, x.f1, x.f2, x.f3, x.f4, x.f5, x.f6⟩ : S26) = x := rfl
theorem rd_drop (l : List S26) (i : Nat) (h : i < l.length) : l.drop i = rd_T26 l (i : Int) :: l.drop (i + 1) := by
  rw [List.drop_eq_getElem_cons h]
  unfold rd_T26
  rw [Int.toNat_natCast, List.getD_eq_getElem?_getD, List.getElem?_eq_getElem h]
  rfl
theorem wrap_succ (i : Nat) (h : i < 9223372036854775807) : wrap64 ((i : Int) + 1) = ((i + 1 : Nat) : Int) := by
  unfold wrap64
  omega
theorem that_loop (l : List S26) (hn : l.length ≤ 9223372036854775807) : ∀ (d k i : Nat) (out : List S26), i + d = l.length → d < k → out.length ≤ 64 →
    choose_that.l0 k out l (l.length : Int) (i : Int) = some ((out ++ (l.drop i).filter cnt).take 64) := by
  intro d
  induction d with
  | zero =>
    intro k i out hi hk ho
    obtain ⟨k, rfl⟩ : ∃ m, k = m + 1 := ⟨k - 1, by omega⟩
    simp only [choose_that.l0]
    rw [if_neg (by omega), List.drop_eq_nil_of_le (by omega), List.filter_nil, List.append_nil, List.take_of_length_le ho]
  | succ d ih =>
    intro k i out hi hk ho
    obtain ⟨k, rfl⟩ : ∃ m, k = m + 1 := ⟨k - 1, by omega⟩
    simp only [choose_that.l0]
    rw [if_pos (by omega), if_pos (by omega), if_pos (by omega), counts_eq, rd_drop l i (by omega)]
    simp only [Option.bind_some, S26.eta]
    rw [wrap_succ i (by omega)]
    by_cases hc : cnt (rd_T26 l (i : Int)) = true
    · rw [if_pos hc, List.filter_cons_of_pos hc]
      by_cases h64 : out.length < 64
      · rw [if_pos (by omega), if_pos (by omega), ih k (i + 1) _ (by omega) (by omega) (by rw [List.length_append]; simp; omega)]
        simp
      · rw [if_neg (by omega), ih k (i + 1) _ (by omega) (by omega) ho]
        have e : out.length = 64 := by omega
        rw [List.take_append_of_le_length (by omega), List.take_append_of_le_length (by omega)]
    · rw [if_neg hc, List.filter_cons_of_neg hc, ih k (i + 1) _ (by omega) (by omega) ho]
theorem that_eq (l : List S26) (hn : l.length ≤ 9223372036854775807) (k : Nat) (hk : l.length < k) : choose_that.f k l = some (thatOf l) := by
  unfold choose_that.f
  have := that_loop l hn l.length k 0 [] (by omega) hk (by simp)
  simpa [thatOf_eq] using this

theorem thatOf_cnt (l : List S26) : ∀ x ∈ thatOf l, cnt x = true := by
  intro x hx
  rw [thatOf_eq] at hx
  exact (List.mem_filter.1 (List.mem_of_mem_take hx)).2
theorem cnt_bounds {x : S26} (h : cnt x = true) : 0 ≤ x.f2 ∧ x.f2 ≤ 4503599627370496 ∧ -1152921504606846976 ≤ x.f1 ∧ x.f1 ≤ 1152921504606846976 := by
  unfold cnt at h
  simp only [Bool.and_eq_true, decide_eq_true_eq] at h
  omega
theorem thatOf_length (l : List S26) : (thatOf l).length ≤ 64 := by rw [thatOf_eq, List.length_take]; omega
theorem flat_three_length (l : List S26) : (l.flatMap three).length = 3 * l.length := by
  induction l with
  | nil => rfl
  | cons a l ih => rw [List.flatMap_cons, List.length_append, ih]; simp [three]; omega
theorem three_small {x : S26} (h : cnt x = true) : ∀ y ∈ three x, Small y.re ∧ (y.im = -1 ∨ y.im = 0 ∨ y.im = 1) := by
  have hb := cnt_bounds h
  intro y hy
  simp only [three, List.mem_cons, List.not_mem_nil, or_false] at hy
  unfold Small
  rcases hy with rfl | rfl | rfl <;> refine ⟨⟨?_, ?_⟩, ?_⟩ <;> dsimp only <;> omega
theorem raw_kinds (l : List S26) : Kinds (rawEnds l) := by
  intro y hy
  obtain ⟨x, hx, hy⟩ := List.mem_flatMap.1 hy
  exact three_small (thatOf_cnt l x hx) y hy
theorem Kinds.small {xs : List Cx} (h : Kinds xs) : AllSmall xs := by
  intro x hx
  obtain ⟨h1, h2⟩ := h x hx
  exact ⟨h1, by unfold Small; omega⟩
/-- sorting hands back the same elements -/
theorem swp_perm (xs : List Cx) (m : Nat) (h : m + 1 < xs.length) : (swp xs m).Perm xs := by
  unfold swp
  have h0 : m < xs.length := by omega
  have e1 : xs.getD (m + 1) zcx = xs[m + 1] := by rw [List.getD_eq_getElem?_getD, List.getElem?_eq_getElem h]; rfl
  have e0 : xs.getD m zcx = xs[m] := by rw [List.getD_eq_getElem?_getD, List.getElem?_eq_getElem h0]; rfl
  rw [e1, e0]
  exact List.set_set_perm h0 h
theorem insAt_perm : ∀ (m : Nat) (xs : List Cx), m < xs.length ∨ m = 0 → (insAt m xs).Perm xs
  | 0, xs, _ => List.Perm.refl _
  | m + 1, xs, h => by
    have hl : m + 1 < xs.length := by omega
    rw [insAt_succ]
    by_cases hc : aheadB (xs.getD (m + 1) zcx) (xs.getD m zcx) = true
    · rw [if_pos hc]
      have h1 := swp_perm xs m hl
      exact (insAt_perm m (swp xs m) (.inl (by rw [h1.length_eq]; omega))).trans h1
    · rw [if_neg hc]
theorem srt_perm : ∀ (n i : Nat) (xs : List Cx), n + i ≤ xs.length ∨ n = 0 → (srt n i xs).Perm xs
  | 0, _, xs, _ => List.Perm.refl _
  | n + 1, i, xs, h => by
    have h1 := insAt_perm i xs (by omega)
    show (srt n (i + 1) (insAt i xs)).Perm xs
    exact (srt_perm n (i + 1) (insAt i xs) (by rw [h1.length_eq]; omega)).trans h1
theorem ends_perm (l : List S26) : (endsOf l).Perm (rawEnds l) := by
  unfold endsOf
  exact srt_perm _ _ _ (by omega)
theorem ends_kinds (l : List S26) : Kinds (endsOf l) := fun x hx => raw_kinds l x ((ends_perm l).mem_iff.1 hx)
theorem ends_length (l : List S26) : (endsOf l).length = 3 * (thatOf l).length := by
  rw [(ends_perm l).length_eq, rawEnds, flat_three_length]

def choose_Ends.f (l : List S26) : Option (List Cx) := some (endsOf l)
theorem choose_Ends.calls (A0 : Option Addr) (c0 : Nat) (l0 : List S26) (r : List Cx) (w : World) (hr0 : Kd.C k26 w A0 l0.length l0) (hc0 : l0.length ≤ c0) (h : choose_Ends.f l0 = some r) :
    Calls Try.prog 14 #[.slice A0 l0.length c0] w fun e w' => ∃ v0_ : Value, e = .returned (v0_) ∧ Kd.R kcx 51 w' w.heap.size (fun _ => True) v0_ r ∧ Below w.heap.size w w' := by
  obtain rfl : endsOf l0 = r := Option.some.inj h
  exact ends_walk A0 c0 l0 w hr0 hc0 (thatOf l0) (l0.length + 1) (that_eq l0 hr0.2.1 _ (by omega)) (thatOf_length l0) (raw_kinds l0).small
    (by rw [flat_three_length]; have := thatOf_length l0; omega) rfl (fun x hx => cnt_bounds (thatOf_cnt l0 x hx))
end Go.Proofs.Ytlhecfleanppmaa.Pr
