/- What the two points of Meet say of the intervals: how many hold them, and how many middles lie outside. -/
import Derived.Test.YtlhecfleanppmaaPd
set_option linter.unusedVariables false
namespace Go.Proofs.Ytlhecfleanppmaa.Pr
open Go.RowKit Go.Proofs.YtlhecfleanppmaaW.PrintWords Go.Proofs.YtlhecfleanppmaaW.PrintLast Go.Proofs.YtlhecfleanppmaaW.PrintMore Go.Proofs.YFl

/-- how many lows, middles, highs -/
def nl (l : List Cx) : Nat := l.countP fun e => decide (e.im = -1)
def nm (l : List Cx) : Nat := l.countP fun e => decide (e.im = 0)
def nh (l : List Cx) : Nat := l.countP fun e => decide (e.im = 1)
def K3 (l : List Cx) : Prop := ∀ x ∈ l, x.im = -1 ∨ x.im = 0 ∨ x.im = 1
theorem K3.tail {x : Cx} {l : List Cx} (h : K3 (x :: l)) : K3 l := fun y hy => h y (List.mem_cons_of_mem _ hy)
theorem nl_cons (x : Cx) (l : List Cx) : nl (x :: l) = nl l + if x.im = -1 then 1 else 0 := by unfold nl; rw [List.countP_cons]; simp
theorem nm_cons (x : Cx) (l : List Cx) : nm (x :: l) = nm l + if x.im = 0 then 1 else 0 := by unfold nm; rw [List.countP_cons]; simp
theorem nh_cons (x : Cx) (l : List Cx) : nh (x :: l) = nh l + if x.im = 1 then 1 else 0 := by unfold nh; rw [List.countP_cons]; simp
theorem ptf_split (W : Int) : ∀ (R : List Cx) (c m a b : Int), K3 R → c < W → ptf 1 W R c m = some (a, b) →
    ∃ R1 e R2, R = R1 ++ e :: R2 ∧ e.re = a ∧ e.im = -1 ∧ c + (nl R1 : Int) - (nh R1 : Int) + 1 = W ∧ b = m + (nm R1 : Int)
  | [], c, m, a, b, _, _, h => by cases h
  | x :: R, c, m, a, b, hk, hc, h => by
    have hx := hk x (by simp)
    unfold ptf at h
    by_cases hw : c - 1 * x.im = W
    · rw [if_pos hw] at h
      simp only [Option.some.injEq, Prod.mk.injEq] at h
      have h1 : x.im = -1 := by omega
      refine ⟨[], x, R, rfl, h.1, h1, ?_, ?_⟩
      · show c + ((0 : Nat) : Int) - ((0 : Nat) : Int) + 1 = W
        omega
      · show b = m + ((0 : Nat) : Int)
        rw [if_neg (by omega)] at h
        omega
    · rw [if_neg hw] at h
      obtain ⟨R1, e, R2, g1, g2, g3, g4, g5⟩ := ptf_split W R _ _ a b hk.tail (by omega) h
      refine ⟨x :: R1, e, R2, by rw [g1]; rfl, g2, g3, ?_, ?_⟩
      · rw [nl_cons, nh_cons]
        rcases hx with h | h | h <;> simp [h] at g4 ⊢ <;> omega
      · rw [nm_cons, g5]
        rcases hx with h | h | h <;> simp [h] <;> omega
theorem ptf_none_all (W : Int) : ∀ (R : List Cx) (c m : Int), K3 R → c < W → ptf 1 W R c m = none → ∀ (R1 R2 : List Cx), R = R1 ++ R2 → c + (nl R1 : Int) - (nh R1 : Int) < W
  | R, c, m, _, hc, _, [], R2, _ => by
    show c + ((0 : Nat) : Int) - ((0 : Nat) : Int) < W
    omega
  | [], c, m, _, hc, _, y :: R1, R2, h => by simp at h
  | x :: R, c, m, hk, hc, h, y :: R1, R2, he => by
    have hx := hk x (by simp)
    rw [List.cons_append, List.cons.injEq] at he
    obtain ⟨rfl, he⟩ := he
    unfold ptf at h
    by_cases hw : c - 1 * x.im = W
    · rw [if_pos hw] at h; cases h
    · rw [if_neg hw] at h
      have g := ptf_none_all W R _ _ hk.tail (by omega) h R1 R2 he
      rw [nl_cons, nh_cons]
      rcases hx with h | h | h <;> simp [h] at g ⊢ <;> omega

/-! ### sorted ends -/
theorem Sorted.parts {a b : List Cx} (h : Sorted (a ++ b)) : Sorted a ∧ Sorted b ∧ ∀ x ∈ a, ∀ y ∈ b, aheadB y x = false := List.pairwise_append.1 h
theorem countP_none {p : Cx → Bool} {l : List Cx} (h : ∀ x ∈ l, p x = false) : l.countP p = 0 := by
  rw [List.countP_eq_zero]
  intro x hx
  rw [h x hx]
  decide
theorem countP_same {p q : Cx → Bool} {l : List Cx} (h : ∀ x ∈ l, p x = q x) : l.countP p = l.countP q := by
  induction l with
  | nil => rfl
  | cons a l ih =>
    rw [List.countP_cons, List.countP_cons, ih (fun x hx => h x (List.mem_cons_of_mem _ hx)), h a (by simp)]
def lowsTo (l : List Cx) (a : Int) : Nat := l.countP fun e => decide (e.im = -1) && decide (e.re ≤ a)
def highsTo (l : List Cx) (a : Int) : Nat := l.countP fun e => decide (e.im = 1) && decide (e.re < a)
def midsTo (l : List Cx) (a : Int) : Nat := l.countP fun e => decide (e.im = 0) && decide (e.re < a)
theorem low_point {E : List Cx} (hs : Sorted E) (hk : K3 E) {W a b : Int} (hW : 1 ≤ W) (h : ptf 1 W E 0 0 = some (a, b)) :
    (∃ e ∈ E, e.im = -1 ∧ e.re = a) ∧ b = (midsTo E a : Int) ∧ W ≤ (lowsTo E a : Int) - (highsTo E a : Int) := by
  obtain ⟨R1, e, R2, rfl, h2, h3, h4, h5⟩ := ptf_split W E 0 0 a b hk (by omega) h
  have hp := hs.parts
  have hR1 : ∀ x ∈ R1, x.re < a ∨ (x.re = a ∧ x.im ≤ -1) := fun x hx => by
    have := hp.2.2 x hx e (by simp)
    rw [ahead_false] at this
    omega
  have hR2 : ∀ x ∈ e :: R2, a < x.re ∨ (a = x.re ∧ -1 ≤ x.im) := fun x hx => by
    rcases List.mem_cons.1 hx with rfl | hx
    · omega
    · have := (List.pairwise_cons.1 hp.2.1).1 x hx
      rw [ahead_false] at this
      omega
  refine ⟨⟨e, by simp, h3, h2⟩, ?_, ?_⟩
  · rw [h5]
    unfold midsTo
    rw [List.countP_append, countP_none (l := e :: R2) (fun x hx => ?_), countP_same (l := R1) (q := fun e => decide (e.im = 0)) (fun x hx => ?_)]
    · show 0 + ((R1.countP fun e => decide (e.im = 0) : Nat) : Int) = _
      omega
    · have := hR1 x hx
      by_cases h0 : x.im = 0
      · simp [h0]; omega
      · simp [h0]
    · have := hR2 x hx
      by_cases h0 : x.im = 0
      · simp [h0]; omega
      · simp [h0]
  · have e1 : lowsTo (R1 ++ e :: R2) a ≥ nl R1 + 1 := by
      unfold lowsTo
      rw [List.countP_append, List.countP_cons, countP_same (l := R1) (q := fun e => decide (e.im = -1)) (fun x hx => ?_)]
      · have : (decide (e.im = -1) && decide (e.re ≤ a)) = true := by simp [h3, h2]
        rw [this]
        simp only [if_true]
        show (R1.countP fun e => decide (e.im = -1)) + _ ≥ nl R1 + 1
        unfold nl
        omega
      · have := hR1 x hx
        by_cases h0 : x.im = -1
        · simp [h0]; omega
        · simp [h0]
    have e2 : highsTo (R1 ++ e :: R2) a ≤ nh R1 := by
      unfold highsTo
      rw [List.countP_append, countP_none (l := e :: R2) (fun x hx => ?_)]
      · unfold nh
        rw [Nat.add_zero]
        exact List.countP_mono_left fun x _ hx => by simp only [Bool.and_eq_true] at hx; exact hx.1
      · have := hR2 x hx
        by_cases h0 : x.im = 1
        · simp [h0]; omega
        · simp [h0]
    omega
theorem filter_sorted {p : Cx → Bool} (hp : ∀ x y, aheadB y x = false → p y = true → p x = true) : ∀ {l : List Cx}, Sorted l → l = l.filter p ++ l.filter (fun x => !p x)
  | [], _ => rfl
  | x :: l, h => by
    have h1 := List.pairwise_cons.1 h
    by_cases hx : p x = true
    · rw [List.filter_cons_of_pos hx, List.filter_cons_of_neg (by simp [hx]), List.cons_append, ← filter_sorted hp h1.2]
    · have hall : ∀ y ∈ l, p y = false := fun y hy => by
        cases hy2 : p y
        · rfl
        · exact absurd (hp x y (h1.1 y hy) hy2) hx
      rw [List.filter_cons_of_neg hx, List.filter_cons_of_pos (by simpa using hx), List.filter_eq_nil_iff.2 (fun y hy => by rw [hall y hy]; decide), List.nil_append, List.filter_eq_self.2 (fun y hy => by rw [hall y hy]; rfl)]
theorem low_there {E : List Cx} (hs : Sorted E) (hk : K3 E) {W : Int} (hW : 1 ≤ W) (x : Int) (hx : W ≤ (lowsTo E x : Int) - (highsTo E x : Int)) : ptf 1 W E 0 0 ≠ none := by
  intro hnone
  have hsp := filter_sorted (p := fun e => decide (e.re < x) || (decide (e.re = x) && decide (e.im ≤ 0))) (fun u v huv hv => by
    rw [ahead_false] at huv
    simp only [Bool.or_eq_true, Bool.and_eq_true, decide_eq_true_eq] at hv ⊢
    omega) hs
  have h1 := ptf_none_all W E 0 0 hk (by omega) hnone _ _ hsp
  have e1 : nl (E.filter fun e => decide (e.re < x) || (decide (e.re = x) && decide (e.im ≤ 0))) = lowsTo E x := by
    unfold nl lowsTo
    rw [List.countP_filter]
    refine countP_same fun y hy => ?_
    by_cases h0 : y.im = -1
    · simp only [h0, decide_true, Bool.true_and]
      rw [Bool.eq_iff_iff]
      simp only [Bool.or_eq_true, Bool.and_eq_true, decide_eq_true_eq]
      omega
    · simp [h0]
  have e2 : nh (E.filter fun e => decide (e.re < x) || (decide (e.re = x) && decide (e.im ≤ 0))) = highsTo E x := by
    unfold nh highsTo
    rw [List.countP_filter]
    refine countP_same fun y hy => ?_
    by_cases h0 : y.im = 1
    · simp only [h0, decide_true, Bool.true_and]
      rw [Bool.eq_iff_iff]
      simp only [Bool.or_eq_true, Bool.and_eq_true, decide_eq_true_eq]
      omega
    · simp [h0]
  omega
/-! ### from above -/
def neg (e : Cx) : Cx := ⟨-e.re, -e.im⟩
theorem ptf_neg (W : Int) : ∀ (l : List Cx) (c m : Int), ptf (-1) W l c m = (ptf 1 W (l.map neg) c m).map fun p => (-p.1, p.2)
  | [], _, _ => rfl
  | e :: l, c, m => by
    rw [List.map_cons]
    unfold ptf
    have e1 : c - 1 * (neg e).im = c - -1 * e.im := by simp only [neg]; omega
    have e2 : ((neg e).im = 0) = (e.im = 0) := by simp only [neg]; exact propext ⟨fun h => by omega, fun h => by omega⟩
    rw [e1]
    simp only [e2]
    by_cases h : c - -1 * e.im = W
    · rw [if_pos h, if_pos h]
      simp [neg]
    · rw [if_neg h, if_neg h, ptf_neg W l]
theorem sorted_neg {E : List Cx} (hs : Sorted E) : Sorted (E.reverse.map neg) := by
  unfold Sorted
  rw [List.pairwise_map, List.pairwise_reverse]
  exact hs.imp fun {a b} h => by
    rw [ahead_false] at h ⊢
    simp only [neg]
    omega
theorem K3.neg {E : List Cx} (hk : K3 E) : K3 (E.reverse.map neg) := fun x hx => by
  obtain ⟨y, hy, rfl⟩ := List.mem_map.1 hx
  have := hk y (List.mem_reverse.1 hy)
  simp only [Pr.neg]
  omega
def highsFrom (l : List Cx) (a : Int) : Nat := l.countP fun e => decide (e.im = 1) && decide (a ≤ e.re)
def lowsFrom (l : List Cx) (a : Int) : Nat := l.countP fun e => decide (e.im = -1) && decide (a < e.re)
def midsFrom (l : List Cx) (a : Int) : Nat := l.countP fun e => decide (e.im = 0) && decide (a < e.re)
theorem neg_counts (E : List Cx) (a : Int) : lowsTo (E.reverse.map neg) (-a) = highsFrom E a ∧ highsTo (E.reverse.map neg) (-a) = lowsFrom E a ∧ midsTo (E.reverse.map neg) (-a) = midsFrom E a := by
  unfold lowsTo highsTo midsTo highsFrom lowsFrom midsFrom
  refine ⟨?_, ?_, ?_⟩ <;> rw [List.countP_map, List.countP_reverse] <;> refine countP_same fun y hy => ?_ <;> rw [Bool.eq_iff_iff] <;> simp only [Function.comp_apply, neg, Bool.and_eq_true, decide_eq_true_eq] <;> exact ⟨fun h => (fun h1 h2 => ⟨by omega, by omega⟩) (of_decide_eq_true h.1) (of_decide_eq_true h.2), fun h => ⟨decide_eq_true (by omega), decide_eq_true (by omega)⟩⟩
theorem high_point {E : List Cx} (hs : Sorted E) (hk : K3 E) {W a b : Int} (hW : 1 ≤ W) (h : ptf (-1) W E.reverse 0 0 = some (a, b)) :
    (∃ e ∈ E, e.im = 1 ∧ e.re = a) ∧ b = (midsFrom E a : Int) ∧ W ≤ (highsFrom E a : Int) - (lowsFrom E a : Int) := by
  rw [ptf_neg] at h
  rcases hq : ptf 1 W (E.reverse.map neg) 0 0 with _ | ⟨a', b'⟩
  · rw [hq] at h; cases h
  · rw [hq] at h
    simp only [Option.map_some, Option.some.injEq, Prod.mk.injEq] at h
    obtain ⟨ha, rfl⟩ := h
    obtain ⟨⟨e, he, h1, h2⟩, h3, h4⟩ := low_point (sorted_neg hs) hk.neg hW hq
    obtain ⟨y, hy, rfl⟩ := List.mem_map.1 he
    have hc := neg_counts E a
    rw [show a' = -a by omega] at h3 h4
    rw [hc.1, hc.2.1] at h4
    rw [hc.2.2] at h3
    simp only [neg] at h1 h2
    exact ⟨⟨y, List.mem_reverse.1 hy, by omega, by omega⟩, h3, h4⟩
theorem high_there {E : List Cx} (hs : Sorted E) (hk : K3 E) {W : Int} (hW : 1 ≤ W) (x : Int) (hx : W ≤ (highsFrom E x : Int) - (lowsFrom E x : Int)) : ptf (-1) W E.reverse 0 0 ≠ none := by
  rw [ptf_neg]
  have hc := neg_counts E x
  have := low_there (sorted_neg hs) hk.neg hW (-x) (by rw [hc.1, hc.2.1]; exact hx)
  intro h
  rw [Option.map_eq_none_iff] at h
  exact this h
end Go.Proofs.Ytlhecfleanppmaa.Pr
