/- ChooseTruth, told plainly: if more than half of the candidates hold the true offset, whatever is found is near it, and more than half survive. -/
import Derived.Test.YtlhecfleanppmaaZK3
import Derived.Test.YtlhecfleanppmaaZPrx31
set_option linter.unusedVariables false
namespace Go.Proofs.Ytlhecfleanppmaa.Pr
open Go.RowKit Go.Proofs.YtlhecfleanppmaaW.PrintWords Go.Proofs.YtlhecfleanppmaaW.PrintLast Go.Proofs.YtlhecfleanppmaaW.PrintMore Go.Proofs.YFl Go.Proofs.Ytlhecfleanppmaa.Rw

def badOf (x : S26) : S26 := ⟨x.f0, Int.tmod x.f1 1125899906842624, mx (Int.tmod x.f2 1125899906842624) (wrap64 (-(Int.tmod x.f2 1125899906842624))), x.f3, x.f4, x.f5, x.f6⟩
theorem bad_bounds (x : S26) : 0 ≤ (badOf x).f2 ∧ (badOf x).f2 ≤ 1125899906842624 ∧ -1125899906842624 ≤ (badOf x).f1 ∧ (badOf x).f1 ≤ 1125899906842624 := by
  have b1 := tmod_bounds x.f1 1125899906842624 (by omega)
  have b2 := tmod_bounds x.f2 1125899906842624 (by omega)
  simp only [badOf]
  rw [wrap_small (n := -(Int.tmod x.f2 1125899906842624)) (by omega)]
  unfold mx
  split <;> omega
theorem bad_cnt (x : S26) : cnt (badOf x) = true := by
  have := bad_bounds x
  unfold cnt
  simp only [Bool.and_eq_true, decide_eq_true_eq]
  omega
def mostOf (t : Int) (l : List S26) : Int := l.foldl (fun m x => mx m (nearOf t x).f2) 0
theorem mx_bounds (a b : Int) : a ≤ mx a b ∧ b ≤ mx a b ∧ (mx a b = a ∨ mx a b = b) := by unfold mx; split <;> omega
theorem most_range (t : Int) (ht : -2147483648 ≤ t ∧ t ≤ 2147483647) : ∀ (l : List S26) (m : Int), 0 ≤ m → m ≤ 1101659111424 → 0 ≤ l.foldl (fun m x => mx m (nearOf t x).f2) m ∧ l.foldl (fun m x => mx m (nearOf t x).f2) m ≤ 1101659111424 ∧ m ≤ l.foldl (fun m x => mx m (nearOf t x).f2) m ∧ ∀ x ∈ l, (nearOf t x).f2 ≤ l.foldl (fun m x => mx m (nearOf t x).f2) m
  | [], m, h0, h1 => ⟨h0, h1, Int.le_refl _, fun x hx => by cases hx⟩
  | y :: l, m, h0, h1 => by
    have hb := near_bounds y t ht
    have hm := mx_bounds m (nearOf t y).f2
    have ih := most_range t ht l (mx m (nearOf t y).f2) (by omega) (by omega)
    rw [List.foldl_cons]
    refine ⟨ih.1, ih.2.1, by omega, fun x hx => ?_⟩
    rcases List.mem_cons.1 hx with rfl | hx
    · omega
    · exact ih.2.2.2 x hx
def allOf (G B : List S26) (t : Int) : List S26 := G.map (nearOf t) ++ B.map badOf
theorem all_that (G B : List S26) (t : Int) (ht : -2147483648 ≤ t ∧ t ≤ 2147483647) (hl : G.length + B.length ≤ 64) : thatOf (allOf G B t) = allOf G B t := by
  refine thatOf_all (by simp [allOf]; omega) (fun x hx => ?_)
  rcases List.mem_append.1 hx with hx | hx
  · obtain ⟨y, _, rfl⟩ := List.mem_map.1 hx
    exact near_cnt y t ht
  · obtain ⟨y, _, rfl⟩ := List.mem_map.1 hx
    exact bad_cnt y
/-- where more than half are good, a place that nearly all hold is held by a good one -/
theorem good_holds (G B : List S26) (t a : Int) (f : Nat) (hg : B.length < G.length) (h2 : 2 * f < G.length + B.length) (hd : G.length + B.length ≤ depth (allOf G B t) a + f) : ∃ y ∈ G, lo (nearOf t y) ≤ a ∧ a ≤ hi (nearOf t y) := by
  unfold depth allOf at hd
  rw [List.countP_append] at hd
  have hb := List.countP_le_length (p := fun x => decide (lo x ≤ a) && decide (a ≤ hi x)) (l := B.map badOf)
  rw [List.length_map] at hb
  have hpos : 0 < (G.map (nearOf t)).countP (fun x => decide (lo x ≤ a) && decide (a ≤ hi x)) := by omega
  obtain ⟨x, hx, hp⟩ := List.countP_pos_iff.1 hpos
  obtain ⟨y, hy, rfl⟩ := List.mem_map.1 hx
  simp only [Bool.and_eq_true, decide_eq_true_eq] at hp
  exact ⟨y, hy, hp⟩
theorem held_near (G : List S26) (t a : Int) (ht : -2147483648 ≤ t ∧ t ≤ 2147483647) (y : S26) (hy : y ∈ G) (h : lo (nearOf t y) ≤ a ∧ a ≤ hi (nearOf t y)) : a * 65536 - t ≤ 2 * mostOf t G + 65535 ∧ t - a * 65536 ≤ 2 * mostOf t G + 65535 := by
  have hb := near_bounds y t ht
  have hm := (most_range t ht G 0 (by decide) (by decide)).2.2.2 y hy
  unfold mostOf
  unfold lo hi at h
  omega
theorem far_no (a t m : Int) (ht : -2147483648 ≤ t ∧ t ≤ 2147483647) (hm : 0 ≤ m ∧ m ≤ 4000000000000) (h1 : a - t ≤ m) (h2 : t - a ≤ m) : foliotlaw13_far.f a t m = some false := by
  unfold foliotlaw13_far.f
  rw [wrap_small (n := a - t) (by omega), wrap_small (n := t - a) (by omega)]
  rw [if_neg (by omega)]
  simp only [gt_iff_lt, Option.some.injEq, decide_eq_false_iff_not]
  omega
theorem truth_l2 (G B : List S26) (t u v : Int) (ht : -2147483648 ≤ t ∧ t ≤ 2147483647) (s : List S26) (l : List S26) (hs : s.length ≤ 64) (hl : l.length ≤ 64) (hc : 2 * s.length > l.length)
    (hu : u - t ≤ 2 * mostOf t G + 65535 ∧ t - u ≤ 2 * mostOf t G + 65535) (hv : v - t ≤ 2 * mostOf t G + 65535 ∧ t - v ≤ 2 * mostOf t G + 65535)
    (hm : ∀ x ∈ s, x.f1 - t ≤ 2 * mostOf t G + 131070 ∧ t - x.f1 ≤ 2 * mostOf t G + 131070) : ∀ (d i : Nat), i + d = s.length → Ev (fun k => foliotlaw13_ChooseTruth.l2 k t l (mostOf t G) u v s (i : Int)) true
  | 0, i, hi => by
    have hr := most_range t ht G 0 (by decide) (by decide)
    refine Ev.end1 fun k => ?_
    simp only [foliotlaw13_ChooseTruth.l2]
    rw [if_neg (by omega), wrap_small (n := t) (by omega), wrap_small (n := 2 * mostOf t G) (by unfold mostOf; omega), wrap_small (n := 2 * mostOf t G + 131072) (by unfold mostOf; omega), far_no u t _ ht (by unfold mostOf; omega) (by omega) (by omega), Option.bind_some, if_neg (by decide), far_no v t _ ht (by unfold mostOf; omega) (by omega) (by omega), Option.bind_some, if_neg (by decide), wrap_small (by omega), decide_eq_true (by omega)]
  | d + 1, i, hi => by
    have hr := most_range t ht G 0 (by decide) (by decide)
    refine Ev.two (truth_l2 G B t u v ht s l hs hl hc hu hv hm d (i + 1) (by omega)) fun k hk => ?_
    have hx := hm (rd_T26 s (i : Int)) (rd_mem s i (by omega))
    simp only [foliotlaw13_ChooseTruth.l2]
    rw [if_pos (by omega), if_pos (by omega), wrap_small (n := t) (by omega), wrap_small (n := 2 * mostOf t G) (by unfold mostOf; omega), wrap_small (n := 2 * mostOf t G + 262144) (by unfold mostOf; omega), far_no _ t _ ht (by unfold mostOf; omega) (by omega) (by omega), Option.bind_some, if_neg (by decide), wrap_succ i (by omega)]
    exact hk
theorem truth_end (G B : List S26) (t : Int) (ht : -2147483648 ≤ t ∧ t ≤ 2147483647) (hG : G.length ≤ 30) (hB : B.length < G.length) (i : Nat) (hi : i = B.length) : Ev (fun k => foliotlaw13_ChooseTruth.l1 k B t (allOf G B t) (mostOf t G) (i : Int)) true := by
  have hlen : (allOf G B t).length = G.length + B.length := by simp [allOf]
  have hthat := all_that G B t ht (by omega)
  have hm : choose_Meet.f (allOf G B t) = some (meetOf (allOf G B t)) := rfl
  by_cases hok : (meetOf (allOf G B t)).2.2 = true
  · obtain ⟨f, a, b, hf, he⟩ := meet_found _ hok
    have h2 := hf.few
    have hle := hf.le
    have hA := hf.lowIn
    have hBb := hf.highIn
    rw [hthat, hlen] at h2 hA hBb
    obtain ⟨y, hy, hya⟩ := good_holds G B t a f hB h2 hA
    obtain ⟨z, hz, hzb⟩ := good_holds G B t b f hB h2 hBb
    have na := held_near G t a ht y hy hya
    have nb := held_near G t b ht z hz hzb
    have hc := surv_count hf he
    rw [hthat, hlen] at hc
    have hsm := surv_mem he
    rw [hthat] at hsm
    have hsl := surv_length (allOf G B t)
    have hl2 := truth_l2 G B t (a * 65536) (b * 65536) ht (survOf (allOf G B t)) (allOf G B t) hsl (by omega) (by omega) na nb (fun x hx => by
      rw [hsm, List.mem_filter] at hx
      obtain ⟨_, hx⟩ := hx
      simp only [Bool.and_eq_true, decide_eq_true_eq] at hx
      unfold md at hx
      omega) (survOf (allOf G B t)).length 0 (by omega)
    have hsv := surv_ev (allOf G B t) (by omega)
    have hj : Ev (fun k => foliotlaw13_ChooseTruth.j3 k t (allOf G B t) (mostOf t G) true (a * 65536) (b * 65536) true false) true := by
      obtain ⟨K1, g1⟩ := hl2
      obtain ⟨K2, g2⟩ := hsv
      refine ⟨K1 + K2 + 1, fun k hk => ?_⟩
      obtain ⟨m, rfl⟩ : ∃ m, k = m + 1 := ⟨k - 1, by omega⟩
      have g1 := g1 m (by omega)
      have g2 := g2 m (by omega)
      dsimp only at g1 g2
      simp only [foliotlaw13_ChooseTruth.j3]
      rw [if_neg (by decide), g2, Option.bind_some]
      exact g1
    obtain ⟨K1, g1⟩ := hj
    obtain ⟨K2, g2⟩ := refMeet_ev (allOf G B t) (by omega)
    refine ⟨K1 + K2 + 1, fun k hk => ?_⟩
    obtain ⟨m, rfl⟩ : ∃ m, k = m + 1 := ⟨k - 1, by omega⟩
    have g1 := g1 m (by omega)
    have g2 := g2 m (by omega)
    dsimp only at g1 g2
    simp only [foliotlaw13_ChooseTruth.l1]
    rw [if_neg (by omega), hm, g2]
    simp only [Option.bind_some]
    rw [he]
    dsimp only
    rw [if_neg (by decide)]
    exact g1
  · have hok' : (meetOf (allOf G B t)).2.2 = false := Bool.eq_false_iff.2 hok
    have he := meet_false _ hok'
    obtain ⟨K2, g2⟩ := refMeet_ev (allOf G B t) (by omega)
    refine ⟨K2 + 2, fun k hk => ?_⟩
    obtain ⟨m, rfl⟩ : ∃ m, k = m + 2 := ⟨k - 2, by omega⟩
    have g2 := g2 (m + 1) (by omega)
    dsimp only at g2
    simp only [foliotlaw13_ChooseTruth.l1]
    rw [if_neg (by omega), hm, g2]
    simp only [Option.bind_some]
    rw [he]
    dsimp only
    rw [if_neg (by decide)]
    simp only [foliotlaw13_ChooseTruth.j3]
    rfl
theorem truth_l1 (G B : List S26) (t : Int) (ht : -2147483648 ≤ t ∧ t ≤ 2147483647) (hG : G.length ≤ 30) (hB : B.length < G.length) : ∀ (d i : Nat), i + d = B.length → Ev (fun k => foliotlaw13_ChooseTruth.l1 k B t (G.map (nearOf t) ++ (B.take i).map badOf) (mostOf t G) (i : Int)) true
  | 0, i, hi => by
    rw [List.take_of_length_le (show B.length ≤ i by omega)]
    exact truth_end G B t ht hG hB i (by omega)
  | d + 1, i, hi => by
    have g := truth_l1 G B t ht hG hB d (i + 1) (by omega)
    rw [take_rd B i (by omega), List.map_append, ← List.append_assoc] at g
    refine Ev.two g fun k hk => ?_
    simp only [foliotlaw13_ChooseTruth.l1]
    rw [if_pos (by omega), if_pos (by omega), if_pos (by rw [List.length_append, List.length_map, List.length_map, List.length_take]; omega), wrap_succ i (by omega)]
    exact hk
theorem truth_l0 (G B : List S26) (t : Int) (ht : -2147483648 ≤ t ∧ t ≤ 2147483647) (hG : G.length ≤ 30) (hB : B.length < G.length) : ∀ (d i : Nat), i + d = G.length → Ev (fun k => foliotlaw13_ChooseTruth.l0 k G B t ((G.take i).map (nearOf t)) (mostOf t (G.take i)) (i : Int)) true
  | 0, i, hi => by
    rw [List.take_of_length_le (show G.length ≤ i by omega)]
    have g := truth_l1 G B t ht hG hB B.length 0 (by omega)
    simp only [List.take_zero, List.map_nil, List.append_nil] at g
    refine Ev.two g fun k hk => ?_
    simp only [foliotlaw13_ChooseTruth.l0]
    rw [if_neg (by omega)]
    exact hk
  | d + 1, i, hi => by
    have g := truth_l0 G B t ht hG hB d (i + 1) (by omega)
    have hmo : mostOf t (G.take i ++ [rd_T26 G (i : Int)]) = mx (mostOf t (G.take i)) (nearOf t (rd_T26 G (i : Int))).f2 := by unfold mostOf; rw [List.foldl_append]; rfl
    rw [take_rd G i (by omega), List.map_append, hmo] at g
    refine Ev.two g fun k hk => ?_
    simp only [foliotlaw13_ChooseTruth.l0]
    rw [if_pos (by omega), if_pos (by omega), wrap_small (n := t) (by omega), near_eq _ t ht]
    simp only [Option.bind_some]
    rw [if_pos (by rw [List.length_map, List.length_take]; omega), wrap_succ i (by omega), S26.eta]
    exact hk
theorem pure_ChooseTruth (G : List S26) (hnG : G.length ≤ 9223372036854775807) (hfG : ∀ y ∈ G, Fine y) (B : List S26) (hnB : B.length ≤ 9223372036854775807) (hfB : ∀ y ∈ B, Fine y) (t : Int) (hw : (Lit.int .i32 t).wf = true) : ∃ k, foliotlaw13_ChooseTruth.f k G B t = some true := by
  have ht := bounds_i32 hw
  by_cases h30 : (G.length : Int) > 30
  · refine ⟨1, ?_⟩
    unfold foliotlaw13_ChooseTruth.f
    rw [if_pos h30]
    simp only [foliotlaw13_ChooseTruth.j0, if_true]
  · by_cases hb : (B.length : Int) ≥ (G.length : Int)
    · refine ⟨1, ?_⟩
      unfold foliotlaw13_ChooseTruth.f
      rw [if_neg h30, decide_eq_true hb]
      simp only [foliotlaw13_ChooseTruth.j0, if_true]
    · obtain ⟨k, hk⟩ := Ev.rounds (truth_l0 G B t ht (by omega) (by omega) G.length 0 (by omega))
      refine ⟨k + 1, ?_⟩
      unfold foliotlaw13_ChooseTruth.f
      rw [if_neg h30, decide_eq_false hb]
      simp only [foliotlaw13_ChooseTruth.j0, Bool.false_eq_true, if_false]
      exact hk
end Go.Proofs.Ytlhecfleanppmaa.Pr
