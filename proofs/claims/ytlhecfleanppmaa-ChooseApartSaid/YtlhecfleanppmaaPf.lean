/- What is found, said of the candidates: both points are held by nearly all; few middles lie outside. -/
import Derived.Test.YtlhecfleanppmaaPe
set_option linter.unusedVariables false
namespace Go.Proofs.Ytlhecfleanppmaa.Pr
open Go.RowKit Go.Proofs.YtlhecfleanppmaaW.PrintWords Go.Proofs.YtlhecfleanppmaaW.PrintLast Go.Proofs.YtlhecfleanppmaaW.PrintMore Go.Proofs.YFl

def lo (x : S26) : Int := (x.f1 - x.f2) / 65536
def md (x : S26) : Int := x.f1 / 65536
def hi (x : S26) : Int := -(-(x.f1 + x.f2) / 65536)
theorem lo_md_hi {x : S26} (h : 0 ≤ x.f2) : lo x ≤ md x ∧ md x ≤ hi x := by unfold lo md hi; omega
/-- how many intervals hold a place -/
def depth (C : List S26) (a : Int) : Nat := C.countP fun x => decide (lo x ≤ a) && decide (a ≤ hi x)
theorem count_three (p : Cx → Bool) : ∀ C : List S26, (C.flatMap three).countP p = C.countP (fun x => p ⟨lo x, -1⟩) + C.countP (fun x => p ⟨md x, 0⟩) + C.countP (fun x => p ⟨hi x, 1⟩)
  | [] => rfl
  | x :: C => by
    rw [List.flatMap_cons, List.countP_append, count_three p C, List.countP_cons, List.countP_cons, List.countP_cons]
    have e : (three x).countP p = (if p ⟨lo x, -1⟩ = true then 1 else 0) + (if p ⟨md x, 0⟩ = true then 1 else 0) + (if p ⟨hi x, 1⟩ = true then 1 else 0) := by
      show List.countP p [⟨lo x, -1⟩, ⟨md x, 0⟩, ⟨hi x, 1⟩] = _
      rw [List.countP_cons, List.countP_cons, List.countP_cons, List.countP_nil]
      omega
    rw [e]
    omega
theorem count_ends (p : Cx → Bool) (l : List S26) : (endsOf l).countP p = (thatOf l).countP (fun x => p ⟨lo x, -1⟩) + (thatOf l).countP (fun x => p ⟨md x, 0⟩) + (thatOf l).countP (fun x => p ⟨hi x, 1⟩) := by
  rw [(ends_perm l).countP_eq, rawEnds, count_three]
theorem countP_no {C : List S26} {p : S26 → Bool} (h : ∀ x, p x = false) : C.countP p = 0 := by
  rw [List.countP_eq_zero]
  intro x _
  rw [h x]
  decide
theorem countP_eq' {C : List S26} {p q : S26 → Bool} (h : ∀ x ∈ C, p x = q x) : C.countP p = C.countP q := by
  induction C with
  | nil => rfl
  | cons a C ih => rw [List.countP_cons, List.countP_cons, ih (fun x hx => h x (List.mem_cons_of_mem _ hx)), h a (by simp)]
theorem lowsTo_eq (l : List S26) (a : Int) : lowsTo (endsOf l) a = (thatOf l).countP fun x => decide (lo x ≤ a) := by
  unfold lowsTo
  rw [count_ends, countP_no (p := fun x => _ && decide (md x ≤ a)) (fun x => by simp), countP_no (p := fun x => _ && decide (hi x ≤ a)) (fun x => by simp)]
  simp
theorem highsTo_eq (l : List S26) (a : Int) : highsTo (endsOf l) a = (thatOf l).countP fun x => decide (hi x < a) := by
  unfold highsTo
  rw [count_ends, countP_no (p := fun x => _ && decide (md x < a)) (fun x => by simp), countP_no (p := fun x => _ && decide (lo x < a)) (fun x => by simp)]
  simp
theorem midsTo_eq (l : List S26) (a : Int) : midsTo (endsOf l) a = (thatOf l).countP fun x => decide (md x < a) := by
  unfold midsTo
  rw [count_ends, countP_no (p := fun x => _ && decide (lo x < a)) (fun x => by simp), countP_no (p := fun x => _ && decide (hi x < a)) (fun x => by simp)]
  simp
theorem highsFrom_eq (l : List S26) (a : Int) : highsFrom (endsOf l) a = (thatOf l).countP fun x => decide (a ≤ hi x) := by
  unfold highsFrom
  rw [count_ends, countP_no (p := fun x => _ && decide (a ≤ md x)) (fun x => by simp), countP_no (p := fun x => _ && decide (a ≤ lo x)) (fun x => by simp)]
  simp
theorem lowsFrom_eq (l : List S26) (a : Int) : lowsFrom (endsOf l) a = (thatOf l).countP fun x => decide (a < lo x) := by
  unfold lowsFrom
  rw [count_ends, countP_no (p := fun x => _ && decide (a < md x)) (fun x => by simp), countP_no (p := fun x => _ && decide (a < hi x)) (fun x => by simp)]
  simp
theorem midsFrom_eq (l : List S26) (a : Int) : midsFrom (endsOf l) a = (thatOf l).countP fun x => decide (a < md x) := by
  unfold midsFrom
  rw [count_ends, countP_no (p := fun x => _ && decide (a < lo x)) (fun x => by simp), countP_no (p := fun x => _ && decide (a < hi x)) (fun x => by simp)]
  simp
theorem cnt_f2 (l : List S26) : ∀ x ∈ thatOf l, 0 ≤ x.f2 := fun x hx => (cnt_bounds (thatOf_cnt l x hx)).1
theorem depth_low (C : List S26) (h : ∀ x ∈ C, 0 ≤ x.f2) (a : Int) : (C.countP fun x => decide (lo x ≤ a)) = depth C a + C.countP fun x => decide (hi x < a) := by
  unfold depth
  induction C with
  | nil => rfl
  | cons x C ih =>
    rw [List.countP_cons, List.countP_cons, List.countP_cons, ih (fun y hy => h y (List.mem_cons_of_mem _ hy))]
    have hx := lo_md_hi (h x (by simp))
    by_cases h1 : lo x ≤ a
    · by_cases h2 : a ≤ hi x
      · have h3 : ¬ hi x < a := by omega
        simp [h1, h2, h3]; omega
      · have h3 : hi x < a := by omega
        simp [h1, h2, h3]; omega
    · have h3 : ¬ hi x < a := by omega
      simp [h1, h3]
theorem depth_high (C : List S26) (h : ∀ x ∈ C, 0 ≤ x.f2) (a : Int) : (C.countP fun x => decide (a ≤ hi x)) = depth C a + C.countP fun x => decide (a < lo x) := by
  unfold depth
  induction C with
  | nil => rfl
  | cons x C ih =>
    rw [List.countP_cons, List.countP_cons, List.countP_cons, ih (fun y hy => h y (List.mem_cons_of_mem _ hy))]
    have hx := lo_md_hi (h x (by simp))
    by_cases h1 : a ≤ hi x
    · by_cases h2 : lo x ≤ a
      · have h3 : ¬ a < lo x := by omega
        simp [h1, h2, h3]; omega
      · have h3 : a < lo x := by omega
        simp [h1, h2, h3]; omega
    · have h3 : ¬ a < lo x := by omega
      simp [h1, h3]
theorem Kinds.k3 {xs : List Cx} (h : Kinds xs) : K3 xs := fun x hx => (h x hx).2
theorem ends_low {l : List S26} {e : Cx} (he : e ∈ endsOf l) (h : e.im = -1) : ∃ x ∈ thatOf l, lo x = e.re := by
  obtain ⟨x, hx, hy⟩ := List.mem_flatMap.1 ((ends_perm l).mem_iff.1 he)
  simp only [three, List.mem_cons, List.not_mem_nil, or_false] at hy
  rcases hy with rfl | rfl | rfl
  · exact ⟨x, hx, rfl⟩
  · simp at h
  · simp at h
theorem ends_high {l : List S26} {e : Cx} (he : e ∈ endsOf l) (h : e.im = 1) : ∃ x ∈ thatOf l, hi x = e.re := by
  obtain ⟨x, hx, hy⟩ := List.mem_flatMap.1 ((ends_perm l).mem_iff.1 he)
  simp only [three, List.mem_cons, List.not_mem_nil, or_false] at hy
  rcases hy with rfl | rfl | rfl
  · simp at h
  · simp at h
  · exact ⟨x, hx, rfl⟩
/-- the low point, of the candidates -/
theorem low_cand {l : List S26} {W a b : Int} (hW : 1 ≤ W) (h : ptf 1 W (endsOf l) 0 0 = some (a, b)) :
    (∃ x ∈ thatOf l, lo x = a) ∧ b = ((thatOf l).countP fun x => decide (md x < a) : Nat) ∧ W ≤ (depth (thatOf l) a : Int) := by
  obtain ⟨⟨e, he, h1, h2⟩, h3, h4⟩ := low_point (ends_sorted l) (ends_kinds l).k3 hW h
  rw [lowsTo_eq, highsTo_eq, depth_low _ (cnt_f2 l)] at h4
  rw [midsTo_eq] at h3
  obtain ⟨x, hx, hl⟩ := ends_low he h1
  exact ⟨⟨x, hx, by omega⟩, h3, by omega⟩
theorem high_cand {l : List S26} {W a b : Int} (hW : 1 ≤ W) (h : ptf (-1) W (endsOf l).reverse 0 0 = some (a, b)) :
    (∃ x ∈ thatOf l, hi x = a) ∧ b = ((thatOf l).countP fun x => decide (a < md x) : Nat) ∧ W ≤ (depth (thatOf l) a : Int) := by
  obtain ⟨⟨e, he, h1, h2⟩, h3, h4⟩ := high_point (ends_sorted l) (ends_kinds l).k3 hW h
  rw [lowsFrom_eq, highsFrom_eq, depth_high _ (cnt_f2 l)] at h4
  rw [midsFrom_eq] at h3
  obtain ⟨x, hx, hl⟩ := ends_high he h1
  exact ⟨⟨x, hx, by omega⟩, h3, by omega⟩
theorem low_exists {l : List S26} {W : Int} (hW : 1 ≤ W) (x : Int) (h : W ≤ (depth (thatOf l) x : Int)) : ptf 1 W (endsOf l) 0 0 ≠ none := by
  refine low_there (ends_sorted l) (ends_kinds l).k3 hW x ?_
  rw [lowsTo_eq, highsTo_eq, depth_low _ (cnt_f2 l)]
  omega
theorem high_exists {l : List S26} {W : Int} (hW : 1 ≤ W) (x : Int) (h : W ≤ (depth (thatOf l) x : Int)) : ptf (-1) W (endsOf l).reverse 0 0 ≠ none := by
  refine high_there (ends_sorted l) (ends_kinds l).k3 hW x ?_
  rw [lowsFrom_eq, highsFrom_eq, depth_high _ (cnt_f2 l)]
  omega
/-- what is found -/
structure Found (l : List S26) (f : Nat) (a b : Int) : Prop where
  few : 2 * f < (thatOf l).length
  le : a ≤ b
  mids : ((thatOf l).countP fun x => decide (md x < a)) + ((thatOf l).countP fun x => decide (b < md x)) ≤ f
  lowIn : (thatOf l).length ≤ depth (thatOf l) a + f
  highIn : (thatOf l).length ≤ depth (thatOf l) b + f
  isLow : ∃ x ∈ thatOf l, lo x = a
  isHigh : ∃ x ∈ thatOf l, hi x = b
theorem meetL_found (l : List S26) : ∀ (d f : Nat), (meetL (endsOf l) (thatOf l).length d f).2.2 = true → ∃ f' a b, Found l f' a b ∧ meetL (endsOf l) (thatOf l).length d f = (a * 65536, b * 65536, true)
  | 0, f, h => by simp [meetL] at h
  | d + 1, f, h => by
    unfold meetL at h ⊢
    by_cases h2 : 2 * f < (thatOf l).length
    · rw [if_pos h2] at h ⊢
      by_cases hg : goodF (ptRes (ptf 1 (((thatOf l).length : Int) - f) (endsOf l) 0 0)) (ptRes (ptf (-1) (((thatOf l).length : Int) - f) (endsOf l).reverse 0 0)) f = true
      · rw [if_pos hg]
        rcases hu : ptf 1 (((thatOf l).length : Int) - f) (endsOf l) 0 0 with _ | ⟨a, m1⟩
        · rw [hu] at hg; simp [goodF, ptRes] at hg
        · rcases hv : ptf (-1) (((thatOf l).length : Int) - f) (endsOf l).reverse 0 0 with _ | ⟨b, m2⟩
          · rw [hv] at hg; simp [goodF, ptRes] at hg
          · rw [hu, hv] at hg
            simp only [goodF, ptRes, Bool.true_and, Bool.and_eq_true] at hg
            have q1 := of_decide_eq_true hg.1
            have q2 := of_decide_eq_true hg.2
            obtain ⟨g1, g2, g3⟩ := low_cand (by omega) hu
            obtain ⟨k1, k2, k3⟩ := high_cand (by omega) hv
            exact ⟨f, a, b, ⟨h2, q2, by omega, by omega, by omega, g1, k1⟩, rfl⟩
      · rw [if_neg hg] at h ⊢
        exact meetL_found l d (f + 1) h
    · rw [if_neg h2] at h
      simp at h
theorem meet_found (l : List S26) (h : (meetOf l).2.2 = true) : ∃ f a b, Found l f a b ∧ meetOf l = (a * 65536, b * 65536, true) := meetL_found l 65 0 h
theorem meetL_false (e : List Cx) (n : Nat) : ∀ (d f : Nat), (meetL e n d f).2.2 = false → meetL e n d f = (0, 0, false)
  | 0, f, _ => rfl
  | d + 1, f, h => by
    unfold meetL at h ⊢
    split
    · rename_i h2
      rw [if_pos h2] at h
      split
      · rename_i h3
        rw [if_pos h3] at h
        simp at h
      · rename_i h3
        rw [if_neg h3] at h
        exact meetL_false e n d (f + 1) h
    · rfl
theorem meet_false (l : List S26) (h : (meetOf l).2.2 = false) : meetOf l = (0, 0, false) := meetL_false _ _ 65 0 h
/-- of those that survive -/
theorem surv_mem {l : List S26} {a b : Int} (hm : meetOf l = (a * 65536, b * 65536, true)) : survOf l = (thatOf l).filter fun x => decide (a ≤ md x) && decide (md x ≤ b) := by
  unfold survOf
  rw [hm]
  simp only [if_true]
  congr 1
  funext x
  unfold inB mid md
  rw [Bool.eq_iff_iff]
  simp only [Bool.and_eq_true, decide_eq_true_eq]
  omega
theorem surv_count {l : List S26} {f : Nat} {a b : Int} (hf : Found l f a b) (hm : meetOf l = (a * 65536, b * 65536, true)) : (thatOf l).length ≤ (survOf l).length + f := by
  rw [surv_mem hm, ← List.countP_eq_length_filter]
  have hle := hf.le
  have hmid := hf.mids
  have key : ∀ C : List S26, C.length ≤ (C.countP fun x => decide (a ≤ md x) && decide (md x ≤ b)) + ((C.countP fun x => decide (md x < a)) + (C.countP fun x => decide (b < md x))) := by
    intro C
    induction C with
    | nil => simp
    | cons x C ih =>
      rw [List.length_cons, List.countP_cons, List.countP_cons, List.countP_cons]
      by_cases h1 : a ≤ md x
      · by_cases h2 : md x ≤ b
        · simp [h1, h2]; omega
        · have h3 : b < md x := by omega
          simp [h3]; omega
      · have h3 : md x < a := by omega
        simp [h3]; omega
  have := key (thatOf l)
  omega
end Go.Proofs.Ytlhecfleanppmaa.Pr
