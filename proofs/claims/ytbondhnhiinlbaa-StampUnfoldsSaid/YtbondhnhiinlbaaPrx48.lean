-- PRINTED by print.py (a twelfth state) out of the translation. Not trusted: Lean checks it.
import Derived.Test.YtbondhnhiinlbaaPrx0
namespace Go.Proofs.Ytbondhnhiinlbaa.Pr
open Go.RowKit Go.Proofs.YtbondhnhiinlbaaW.PrintWords Go.Proofs.YtbondhnhiinlbaaW.PrintLast Go.Proofs.YtbondhnhiinlbaaW.PrintMore
attribute [local go_sem] max2_int min2_int max_two min_two max_three min_three max_four min_four   -- for this text's walks alone
set_option linter.unusedVariables false
set_option linter.unusedSimpArgs false

/-! ### foliotref02_Unfold: function 32 -/
def foliotref02_Unfold.j0 : Nat → Int → Bool → Int → Int → Int → Int → Option (Int × Int)
  | 0, _, _, _, _, _, _ => none
  | k + 1, x0, x20, x367000, x367001, x369000, x369001 => if x20 = true then (if x0 < x367001 then (if (IntKind.u64.wrap (x367001 - x0)) > 9223372036854775808 then (some (wrap64 ((wrap64 (x369000 - 1)) + 1), x369001)) else (some (wrap64 (x369000 - 1), x369001))) else (some (wrap64 (x369000 - 1), x369001))) else (if x0 < x367001 then (if (IntKind.u64.wrap (x367001 - x0)) > 9223372036854775808 then (some (wrap64 (x369000 + 1), x369001)) else (some (x369000, x369001))) else (some (x369000, x369001)))
def foliotref02_Unfold.f (k : Nat) (a0 : Int) (a1_0 : Int) (a1_1 : Int) : Option (Int × Int) := if a0 ≥ a1_1 then (foliotref02_Unfold.j0 k a0 (decide ((IntKind.u64.wrap (a0 - a1_1)) ≥ 9223372036854775808)) a1_0 a1_1 a1_0 a0) else (foliotref02_Unfold.j0 k a0 false a1_0 a1_1 a1_0 a0)
theorem foliotref02_Unfold.mono_l : ∀ k, (∀ y0 y1 y2 y3 y4 y5, LeO (foliotref02_Unfold.j0 k y0 y1 y2 y3 y4 y5) (foliotref02_Unfold.j0 (k + 1) y0 y1 y2 y3 y4 y5))
  | 0 => fun _ _ _ _ _ _ r h => by simp [foliotref02_Unfold.j0] at h
  | k + 1 => by
    have ih0 := foliotref02_Unfold.mono_l k
    · intro y0 y1 y2 y3 y4 y5
      unfold foliotref02_Unfold.j0
      repeat' first
      | (with_reducible exact ih0 _ _ _ _ _ _)
      | (with_reducible exact LeO.refl _)
      | (with_reducible exact LeO.none _)
      | (with_reducible refine LeO.ite ?_ ?_)
      | (with_reducible refine LeO.bind ?_ (fun _ => ?_))
      | exact ih0 _ _ _ _ _ _
      | exact LeO.none _
      | refine LeO.ite ?_ ?_
      | refine LeO.bind ?_ (fun _ => ?_)
theorem foliotref02_Unfold.mono : ∀ a0 a1 a2 k, LeO (foliotref02_Unfold.f k a0 a1 a2) (foliotref02_Unfold.f (k + 1) a0 a1 a2) := by
  intro a0 a1 a2 k
  have ih0 := foliotref02_Unfold.mono_l k
  unfold foliotref02_Unfold.f
  repeat' first
      | (with_reducible exact ih0 _ _ _ _ _ _)
      | (with_reducible exact LeO.refl _)
      | (with_reducible exact LeO.none _)
      | (with_reducible refine LeO.ite ?_ ?_)
      | (with_reducible refine LeO.bind ?_ (fun _ => ?_))
      | exact ih0 _ _ _ _ _ _
      | exact LeO.none _
      | refine LeO.ite ?_ ?_
      | refine LeO.bind ?_ (fun _ => ?_)
set_option maxHeartbeats 8000000 in
set_option maxRecDepth 100000 in
theorem foliotref02_Unfold.calls (k : Nat) (a0 : Int) (a1_0 : Int) (a1_1 : Int) (r1 : Int) (r2 : Int) (w : World) (h : foliotref02_Unfold.f k a0 a1_0 a1_1 = some (r1, r2)) :
    Calls Try.prog 32 #[.int .u64 a0, .agg #[.int .i64 a1_0, .int .u64 a1_1]] w fun e w' => e = .returned (.agg #[.int .i64 r1, .int .u64 r2]) ∧ Below w.heap.size w w' := by
  have hu36 := Try.underlying36
  have HB := Aside0.mk (Below.refl w.heap.size w)
  have H : (if a0 ≥ a1_1 then (foliotref02_Unfold.j0 k a0 (decide ((IntKind.u64.wrap (a0 - a1_1)) ≥ 9223372036854775808)) a1_0 a1_1 a1_0 a0) else (foliotref02_Unfold.j0 k a0 false a1_0 a1_1 a1_0 a0)) = some (r1, r2) := h
  clear h
  have HC3 := Aside0.mk H
  clear H
  go_enter Try.func32, Try.ntmps32
  go_upto_region 2 with (first | ((with_reducible refine gate_dst (N := 3) rfl ?_); refine box_event ?hg (N := 3) ?hd (cs := #[.int .i64 a1_0, .int .u64 a1_1]) (t := 36) ?hr ?_; (case hd => rfl); (case hg => rfl); (case hr => first | (go_simp; done) | (go_simp; rfl)); intro gb366 hg w4 hbox hb; have n0_ := Aside0.mk (below_step (by repeat (first | (with_reducible first | exact HB.out | apply below_alloc | apply pw_below_drewN | apply below_drew1) | exact HB.out)) hb); have n1_ := Aside0.mk (hbox); have n2_ := Aside0.mk ((by rw [hg]; exact (below_size (by repeat (first | (with_reducible first | exact HB.out | apply below_alloc | apply pw_below_drewN | apply below_drew1) | exact HB.out))) : w.heap.size ≤ gb366)); have n3_ := Aside0.mk ((by rw [hg]; exact (below_size (by repeat (first | (with_reducible first | exact HB.out | apply below_alloc | apply pw_below_drewN | apply below_drew1) | exact HB.out))) : w.heap.size ≤ gb366)); clear HB; have HB := n0_; have BK366 := n1_; have GW366 := n2_; have GE366 := n3_; clear n0_ n1_ n2_ n3_; clear hb hbox hg) | ((with_reducible refine gate_dst (N := 4) rfl ?_); refine box_event ?hg (N := 4) ?hd (cs := #[.int .i64 0, .int .u64 0]) (t := 36) ?hr ?_; (case hd => rfl); (case hg => rfl); (case hr => first | (go_simp; done) | (go_simp; rfl)); intro gb367 hg w5 hbox hb; have n0_ := Aside0.mk (blk_below (g := gb366) (o := .cells #[.int .i64 a1_0, .int .u64 a1_1] 36 (0, 0)) (by (with_reducible repeat (first | refine blk_drewN ?_ _ | refine blk_drew ?_ | refine blk_alloc ?_ _)); exact BK366.out) hb); have n1_ := Aside0.mk (below_step (by repeat (first | (with_reducible first | exact HB.out | apply below_alloc | apply pw_below_drewN | apply below_drew1 | refine below_set ?_ GE366.out) | exact HB.out)) hb); have n2_ := Aside0.mk (hbox); have n3_ := Aside0.mk ((by rw [hg]; exact (below_size (by repeat (first | (with_reducible first | exact HB.out | apply below_alloc | apply pw_below_drewN | apply below_drew1 | refine below_set ?_ GE366.out) | exact HB.out))) : w.heap.size ≤ gb367)); have n4_ := Aside0.mk ((by rw [hg]; exact (below_size (by repeat (first | (with_reducible first | exact HB.out | apply below_alloc | apply pw_below_drewN | apply below_drew1 | refine below_set ?_ GE366.out) | exact HB.out))) : w.heap.size ≤ gb367)); have n5_ := Aside0.mk ((by rw [hg]; exact Nat.ne_of_lt (blk_lt (g := gb366) (o := .cells #[.int .i64 a1_0, .int .u64 a1_1] 36 (0, 0)) (by (with_reducible repeat (first | refine blk_drewN ?_ _ | refine blk_drew ?_ | refine blk_alloc ?_ _)); exact BK366.out)) : gb366 ≠ gb367)); have n6_ := Aside0.mk ((by rw [hg]; exact Nat.ne_of_gt (blk_lt (g := gb366) (o := .cells #[.int .i64 a1_0, .int .u64 a1_1] 36 (0, 0)) (by (with_reducible repeat (first | refine blk_drewN ?_ _ | refine blk_drew ?_ | refine blk_alloc ?_ _)); exact BK366.out)) : gb367 ≠ gb366)); clear BK366; clear HB; have BK366 := n0_; have HB := n1_; have BK367 := n2_; have GW367 := n3_; have GE367 := n4_; have NB366_367 := n5_; have NB367_366 := n6_; clear n0_ n1_ n2_ n3_ n4_ n5_ n6_; clear hb hbox hg; have hnb6 := NB366_367.out; have hnc6 := NB367_366.out; have hcz7_0 : w5.cell? ⟨gb366, 0, none⟩ = some (.int .i64 a1_0) := (blk_cell BK366.out 0).trans rfl; have hcz7_1 : w5.cell? ⟨gb366, 1, none⟩ = some (.int .u64 a1_1) := (blk_cell BK366.out 1).trans rfl; have hfz7_0 := blk_frozen BK366.out 0; have hfz7_1 := blk_frozen BK366.out 1) | ((with_reducible refine gate_dst (N := 5) rfl ?_); refine box_event ?hg (N := 5) ?hd (cs := #[.int .i64 0, .int .u64 0]) (t := 36) ?hr ?_; (case hd => rfl); (case hg => rfl); (case hr => first | (go_simp; done) | (go_simp; rfl)); intro gb368 hg w8 hbox hb; have n0_ := Aside0.mk (blk_below (g := gb366) (o := .cells #[.int .i64 a1_0, .int .u64 a1_1] 36 (0, 0)) (by (with_reducible repeat (first | refine blk_drewN ?_ _ | refine blk_drew ?_ | refine blk_alloc ?_ _)); exact BK366.out) hb); have n1_ := Aside0.mk (blk_below (g := gb367) (o := .cells #[.int .i64 0, .int .u64 0] 36 (0, 0)) (by (with_reducible repeat (first | refine blk_drewN ?_ _ | refine blk_drew ?_ | refine blk_alloc ?_ _)); exact BK367.out) hb); have n2_ := Aside0.mk (below_step (by repeat (first | (with_reducible first | exact HB.out | apply below_alloc | apply pw_below_drewN | apply below_drew1 | refine below_set ?_ GE366.out | refine below_set ?_ GE367.out) | exact HB.out)) hb); have n3_ := Aside0.mk (hbox); have n4_ := Aside0.mk ((by rw [hg]; exact (below_size (by repeat (first | (with_reducible first | exact HB.out | apply below_alloc | apply pw_below_drewN | apply below_drew1 | refine below_set ?_ GE366.out | refine below_set ?_ GE367.out) | exact HB.out))) : w.heap.size ≤ gb368)); have n5_ := Aside0.mk ((by rw [hg]; exact (below_size (by repeat (first | (with_reducible first | exact HB.out | apply below_alloc | apply pw_below_drewN | apply below_drew1 | refine below_set ?_ GE366.out | refine below_set ?_ GE367.out) | exact HB.out))) : w.heap.size ≤ gb368)); have n6_ := Aside0.mk ((by rw [hg]; exact Nat.ne_of_lt (blk_lt (g := gb366) (o := .cells #[.int .i64 a1_0, .int .u64 a1_1] 36 (0, 0)) (by (with_reducible repeat (first | refine blk_drewN ?_ _ | refine blk_drew ?_ | refine blk_alloc ?_ _)); exact BK366.out)) : gb366 ≠ gb368)); have n7_ := Aside0.mk ((by rw [hg]; exact Nat.ne_of_gt (blk_lt (g := gb366) (o := .cells #[.int .i64 a1_0, .int .u64 a1_1] 36 (0, 0)) (by (with_reducible repeat (first | refine blk_drewN ?_ _ | refine blk_drew ?_ | refine blk_alloc ?_ _)); exact BK366.out)) : gb368 ≠ gb366)); have n8_ := Aside0.mk ((by rw [hg]; exact Nat.ne_of_lt (blk_lt (g := gb367) (o := .cells #[.int .i64 0, .int .u64 0] 36 (0, 0)) (by (with_reducible repeat (first | refine blk_drewN ?_ _ | refine blk_drew ?_ | refine blk_alloc ?_ _)); exact BK367.out)) : gb367 ≠ gb368)); have n9_ := Aside0.mk ((by rw [hg]; exact Nat.ne_of_gt (blk_lt (g := gb367) (o := .cells #[.int .i64 0, .int .u64 0] 36 (0, 0)) (by (with_reducible repeat (first | refine blk_drewN ?_ _ | refine blk_drew ?_ | refine blk_alloc ?_ _)); exact BK367.out)) : gb368 ≠ gb367)); clear BK366; clear BK367; clear HB; have BK366 := n0_; have BK367 := n1_; have HB := n2_; have BK368 := n3_; have GW368 := n4_; have GE368 := n5_; have NB366_368 := n6_; have NB368_366 := n7_; have NB367_368 := n8_; have NB368_367 := n9_; clear n0_ n1_ n2_ n3_ n4_ n5_ n6_ n7_ n8_ n9_; clear hb hbox hg; have hnb9 := NB368_366.out; have hnc9 := NB366_368.out; have hnb10 := NB368_367.out; have hnc10 := NB367_368.out; have hcz11_0 : w8.cell? ⟨gb368, 0, none⟩ = some (.int .i64 0) := (blk_cell BK368.out 0).trans rfl; have hcz11_1 : w8.cell? ⟨gb368, 1, none⟩ = some (.int .u64 0) := (blk_cell BK368.out 1).trans rfl; have hfz11_0 := blk_frozen BK368.out 0; have hfz11_1 := blk_frozen BK368.out 1))
  (try simp only [Act.put, List.setIfInBounds_toArray, List.set_cons_zero, List.set_cons_succ])
  go_cut [20] (fun v20 wc => ∃ (kq : Nat) (x20_2 : Bool), v20 = .bool x20_2 ∧ Aside0 (foliotref02_Unfold.j0 kq a0 x20_2 a1_0 a1_1 a1_0 a0 = some (r1, r2)) ∧ Aside0 (kq ≤ k) ∧ Aside0 (wc.heap[gb366]? = some (.cells #[.int .i64 a1_0, .int .u64 a1_1] 36 (0, 0))) ∧ Aside0 (wc.heap[gb367]? = some (.cells #[.int .i64 0, .int .u64 0] 36 (0, 0))) ∧ Aside0 (wc.heap[gb368]? = some (.cells #[.int .i64 a1_0, .int .u64 a0] 36 (0, 0))) ∧ Aside0 (Below w.heap.size w wc))
  case first =>
    have H := HC3.out
    clear HC3
    by_cases c12 : a0 ≥ a1_1
    · rw [if_pos c12] at H
      have c12b0 : decide (a1_1 ≤ a0) = true := decide_eq_true c12
      clear c12
      (first | rw [c12b0] | (simp only [i64_w, i32_w]; rw [c12b0]) | skip)
      have H' := Aside0.mk H
      clear H
      have hnb13 := NB366_367.out
      have hnc13 := NB367_366.out
      have hnb14 := NB366_368.out
      have hnc14 := NB368_366.out
      have hcz15_0 : w8.cell? ⟨gb366, 0, none⟩ = some (.int .i64 a1_0) := (blk_cell BK366.out 0).trans rfl
      have hcz15_1 : w8.cell? ⟨gb366, 1, none⟩ = some (.int .u64 a1_1) := (blk_cell BK366.out 1).trans rfl
      have hfz15_0 := blk_frozen BK366.out 0
      have hfz15_1 := blk_frozen BK366.out 1
      go_wp2
      go_meet
      case rel => exact ⟨_, (decide ((IntKind.u64.wrap (a0 - a1_1)) ≥ 9223372036854775808)), (by first | rfl | (simp; done) | (simp [*]; done)), H', ⟨by first | omega | exact Nat.le_refl _⟩, ⟨by (with_reducible repeat (first | refine blk_drewN ?_ _ | refine blk_drew ?_ | refine blk_alloc ?_ _)); refine blk_far ?_ NB366_368.out _; (with_reducible repeat (first | refine blk_drewN ?_ _ | refine blk_drew ?_ | refine blk_alloc ?_ _)); refine blk_far ?_ NB366_368.out _; (with_reducible repeat (first | refine blk_drewN ?_ _ | refine blk_drew ?_ | refine blk_alloc ?_ _)); exact BK366.out⟩, ⟨by (with_reducible repeat (first | refine blk_drewN ?_ _ | refine blk_drew ?_ | refine blk_alloc ?_ _)); refine blk_far ?_ NB367_368.out _; (with_reducible repeat (first | refine blk_drewN ?_ _ | refine blk_drew ?_ | refine blk_alloc ?_ _)); refine blk_far ?_ NB367_368.out _; (with_reducible repeat (first | refine blk_drewN ?_ _ | refine blk_drew ?_ | refine blk_alloc ?_ _)); exact BK367.out⟩, ⟨by (with_reducible repeat (first | refine blk_drewN ?_ _ | refine blk_drew ?_ | refine blk_alloc ?_ _)); refine blk_put (cs := #[.int .i64 a1_0, .int .u64 0]) ?_ 1 _ rfl; (with_reducible repeat (first | refine blk_drewN ?_ _ | refine blk_drew ?_ | refine blk_alloc ?_ _)); refine blk_put (cs := #[.int .i64 0, .int .u64 0]) ?_ 0 _ rfl; (with_reducible repeat (first | refine blk_drewN ?_ _ | refine blk_drew ?_ | refine blk_alloc ?_ _)); exact BK368.out⟩, ⟨by repeat (first | (with_reducible first | exact HB.out | apply below_alloc | apply pw_below_drewN | apply below_drew1 | refine below_set ?_ GE366.out | refine below_set ?_ GE367.out | refine below_set ?_ GE368.out) | exact HB.out)⟩⟩
    · rw [if_neg c12] at H
      have c12b0 : decide (a1_1 ≤ a0) = false := decide_eq_false c12
      clear c12
      (first | rw [c12b0] | (simp only [i64_w, i32_w]; rw [c12b0]) | skip)
      have H' := Aside0.mk H
      clear H
      have hnb16 := NB366_367.out
      have hnc16 := NB367_366.out
      have hnb17 := NB366_368.out
      have hnc17 := NB368_366.out
      have hcz18_0 : w8.cell? ⟨gb366, 0, none⟩ = some (.int .i64 a1_0) := (blk_cell BK366.out 0).trans rfl
      have hcz18_1 : w8.cell? ⟨gb366, 1, none⟩ = some (.int .u64 a1_1) := (blk_cell BK366.out 1).trans rfl
      have hfz18_0 := blk_frozen BK366.out 0
      have hfz18_1 := blk_frozen BK366.out 1
      go_wp2
      go_meet
      case rel => exact ⟨_, (false), (by first | rfl | (simp; done) | (simp [*]; done)), H', ⟨by first | omega | exact Nat.le_refl _⟩, ⟨by (with_reducible repeat (first | refine blk_drewN ?_ _ | refine blk_drew ?_ | refine blk_alloc ?_ _)); refine blk_far ?_ NB366_368.out _; (with_reducible repeat (first | refine blk_drewN ?_ _ | refine blk_drew ?_ | refine blk_alloc ?_ _)); refine blk_far ?_ NB366_368.out _; (with_reducible repeat (first | refine blk_drewN ?_ _ | refine blk_drew ?_ | refine blk_alloc ?_ _)); exact BK366.out⟩, ⟨by (with_reducible repeat (first | refine blk_drewN ?_ _ | refine blk_drew ?_ | refine blk_alloc ?_ _)); refine blk_far ?_ NB367_368.out _; (with_reducible repeat (first | refine blk_drewN ?_ _ | refine blk_drew ?_ | refine blk_alloc ?_ _)); refine blk_far ?_ NB367_368.out _; (with_reducible repeat (first | refine blk_drewN ?_ _ | refine blk_drew ?_ | refine blk_alloc ?_ _)); exact BK367.out⟩, ⟨by (with_reducible repeat (first | refine blk_drewN ?_ _ | refine blk_drew ?_ | refine blk_alloc ?_ _)); refine blk_put (cs := #[.int .i64 a1_0, .int .u64 0]) ?_ 1 _ rfl; (with_reducible repeat (first | refine blk_drewN ?_ _ | refine blk_drew ?_ | refine blk_alloc ?_ _)); refine blk_put (cs := #[.int .i64 0, .int .u64 0]) ?_ 0 _ rfl; (with_reducible repeat (first | refine blk_drewN ?_ _ | refine blk_drew ?_ | refine blk_alloc ?_ _)); exact BK368.out⟩, ⟨by repeat (first | (with_reducible first | exact HB.out | apply below_alloc | apply pw_below_drewN | apply below_drew1 | refine below_set ?_ GE366.out | refine below_set ?_ GE367.out | refine below_set ?_ GE368.out) | exact HB.out)⟩⟩
  case rest =>
    clear HC3
    try clear c1
    try clear p2
    try clear c3
    try clear c6
    try clear c9
    try clear c10
    try clear c12
    try clear c12b0
    try clear c13
    try clear c14
    try clear c16
    try clear c17
    try clear hcz11_0
    try clear hcz11_1
    try clear hcz15_0
    try clear hcz15_1
    try clear hcz18_0
    try clear hcz18_1
    try clear hcz7_0
    try clear hcz7_1
    try clear hfz11_0
    try clear hfz11_1
    try clear hfz15_0
    try clear hfz15_1
    try clear hfz18_0
    try clear hfz18_1
    try clear hfz7_0
    try clear hfz7_1
    obtain ⟨kq, x20_2, rfl, HA, HJ2, BK366, BK367, BK368, HB⟩ := hcut
    cases kq with
    | zero => exact absurd HA.out (by simp [foliotref02_Unfold.j0])
    | succ kj2 =>
      have H := HA.out
      clear HA
      simp only [foliotref02_Unfold.j0] at H
      by_cases c19 : x20_2 = true
      · subst c19
        have H1 : (if a0 < a1_1 then (if (IntKind.u64.wrap (a1_1 - a0)) > 9223372036854775808 then (some (wrap64 ((wrap64 (a1_0 - 1)) + 1), a0)) else (some (wrap64 (a1_0 - 1), a0))) else (some (wrap64 (a1_0 - 1), a0))) = some (r1, r2) := by rw [if_pos rfl] at H; exact H
        clear H
        have H := H1
        clear H1
        by_cases c20 : a0 < a1_1
        · rw [if_pos c20] at H
          have c20b0 : decide (a0 < a1_1) = true := decide_eq_true c20
          clear c20
          by_cases c21 : (IntKind.u64.wrap (a1_1 - a0)) > 9223372036854775808
          · rw [if_pos c21] at H
            have c21b0 : decide (9223372036854775808 < (IntKind.u64.wrap (a1_1 - a0))) = true := decide_eq_true c21
            clear c21
            simp only [Option.some.injEq, Prod.mk.injEq] at H
            obtain ⟨rfl, rfl⟩ := H
            have hnb22 := NB368_366.out
            have hnc22 := NB366_368.out
            have hnb23 := NB368_367.out
            have hnc23 := NB367_368.out
            have hcz24_0 : wc.cell? ⟨gb368, 0, none⟩ = some (.int .i64 a1_0) := (blk_cell BK368.out 0).trans rfl
            have hcz24_1 : wc.cell? ⟨gb368, 1, none⟩ = some (.int .u64 a0) := (blk_cell BK368.out 1).trans rfl
            have hfz24_0 := blk_frozen BK368.out 0
            have hfz24_1 := blk_frozen BK368.out 1
            have hnb25 := NB366_367.out
            have hnc25 := NB367_366.out
            have hcz26_0 : wc.cell? ⟨gb366, 0, none⟩ = some (.int .i64 a1_0) := (blk_cell BK366.out 0).trans rfl
            have hcz26_1 : wc.cell? ⟨gb366, 1, none⟩ = some (.int .u64 a1_1) := (blk_cell BK366.out 1).trans rfl
            have hfz26_0 := blk_frozen BK366.out 0
            have hfz26_1 := blk_frozen BK366.out 1
            have hcz27_0 : wc.cell? ⟨gb367, 0, none⟩ = some (.int .i64 0) := (blk_cell BK367.out 0).trans rfl
            have hcz27_1 : wc.cell? ⟨gb367, 1, none⟩ = some (.int .u64 0) := (blk_cell BK367.out 1).trans rfl
            have hfz27_0 := blk_frozen BK367.out 0
            have hfz27_1 := blk_frozen BK367.out 1
            go_wp2
            refine bodyPost_ret (results_cell_row rfl _ _ gb367 36 #[.int .i64 (wrap64 ((wrap64 (a1_0 - 1)) + 1)), .int .u64 a0] (0, 0) _ rfl (by (with_reducible repeat (first | refine blk_drewN ?_ _ | refine blk_drew ?_ | refine blk_alloc ?_ _)); refine blk_put (cs := #[.int .i64 (wrap64 ((wrap64 (a1_0 - 1)) + 1)), .int .u64 0]) ?_ 1 _ rfl; (with_reducible repeat (first | refine blk_drewN ?_ _ | refine blk_drew ?_ | refine blk_alloc ?_ _)); refine blk_put (cs := #[.int .i64 0, .int .u64 0]) ?_ 0 _ rfl; (with_reducible repeat (first | refine blk_drewN ?_ _ | refine blk_drew ?_ | refine blk_alloc ?_ _)); refine blk_far ?_ NB367_368.out _; (with_reducible repeat (first | refine blk_drewN ?_ _ | refine blk_drew ?_ | refine blk_alloc ?_ _)); refine blk_far ?_ NB367_368.out _; (with_reducible repeat (first | refine blk_drewN ?_ _ | refine blk_drew ?_ | refine blk_alloc ?_ _)); exact BK367.out) Try.underlying36 rfl (by kernel_rfl)) rfl ?_
            exact ⟨by first | rfl | (simp [errW_none, errW_some] <;> rfl) | (simp [*, errW_none, errW_some] <;> rfl), by repeat (first | (with_reducible first | exact HB.out | apply below_alloc | apply pw_below_drewN | apply below_drew1 | refine below_set ?_ GE366.out | refine below_set ?_ GE367.out | refine below_set ?_ GE368.out) | exact HB.out)⟩
          · rw [if_neg c21] at H
            have c21b0 : decide (9223372036854775808 < (IntKind.u64.wrap (a1_1 - a0))) = false := decide_eq_false c21
            clear c21
            simp only [Option.some.injEq, Prod.mk.injEq] at H
            obtain ⟨rfl, rfl⟩ := H
            have hnb28 := NB368_366.out
            have hnc28 := NB366_368.out
            have hnb29 := NB368_367.out
            have hnc29 := NB367_368.out
            have hcz30_0 : wc.cell? ⟨gb368, 0, none⟩ = some (.int .i64 a1_0) := (blk_cell BK368.out 0).trans rfl
            have hcz30_1 : wc.cell? ⟨gb368, 1, none⟩ = some (.int .u64 a0) := (blk_cell BK368.out 1).trans rfl
            have hfz30_0 := blk_frozen BK368.out 0
            have hfz30_1 := blk_frozen BK368.out 1
            have hnb31 := NB366_367.out
            have hnc31 := NB367_366.out
            have hcz32_0 : wc.cell? ⟨gb366, 0, none⟩ = some (.int .i64 a1_0) := (blk_cell BK366.out 0).trans rfl
            have hcz32_1 : wc.cell? ⟨gb366, 1, none⟩ = some (.int .u64 a1_1) := (blk_cell BK366.out 1).trans rfl
            have hfz32_0 := blk_frozen BK366.out 0
            have hfz32_1 := blk_frozen BK366.out 1
            have hcz33_0 : wc.cell? ⟨gb367, 0, none⟩ = some (.int .i64 0) := (blk_cell BK367.out 0).trans rfl
            have hcz33_1 : wc.cell? ⟨gb367, 1, none⟩ = some (.int .u64 0) := (blk_cell BK367.out 1).trans rfl
            have hfz33_0 := blk_frozen BK367.out 0
            have hfz33_1 := blk_frozen BK367.out 1
            go_wp2
            refine bodyPost_ret (results_cell_row rfl _ _ gb367 36 #[.int .i64 (wrap64 (a1_0 - 1)), .int .u64 a0] (0, 0) _ rfl (by (with_reducible repeat (first | refine blk_drewN ?_ _ | refine blk_drew ?_ | refine blk_alloc ?_ _)); refine blk_put (cs := #[.int .i64 (wrap64 (a1_0 - 1)), .int .u64 0]) ?_ 1 _ rfl; (with_reducible repeat (first | refine blk_drewN ?_ _ | refine blk_drew ?_ | refine blk_alloc ?_ _)); refine blk_put (cs := #[.int .i64 0, .int .u64 0]) ?_ 0 _ rfl; (with_reducible repeat (first | refine blk_drewN ?_ _ | refine blk_drew ?_ | refine blk_alloc ?_ _)); refine blk_far ?_ NB367_368.out _; (with_reducible repeat (first | refine blk_drewN ?_ _ | refine blk_drew ?_ | refine blk_alloc ?_ _)); exact BK367.out) Try.underlying36 rfl (by kernel_rfl)) rfl ?_
            exact ⟨by first | rfl | (simp [errW_none, errW_some] <;> rfl) | (simp [*, errW_none, errW_some] <;> rfl), by repeat (first | (with_reducible first | exact HB.out | apply below_alloc | apply pw_below_drewN | apply below_drew1 | refine below_set ?_ GE366.out | refine below_set ?_ GE367.out | refine below_set ?_ GE368.out) | exact HB.out)⟩
        · rw [if_neg c20] at H
          have c20b0 : decide (a0 < a1_1) = false := decide_eq_false c20
          clear c20
          simp only [Option.some.injEq, Prod.mk.injEq] at H
          obtain ⟨rfl, rfl⟩ := H
          have hnb34 := NB368_366.out
          have hnc34 := NB366_368.out
          have hnb35 := NB368_367.out
          have hnc35 := NB367_368.out
          have hcz36_0 : wc.cell? ⟨gb368, 0, none⟩ = some (.int .i64 a1_0) := (blk_cell BK368.out 0).trans rfl
          have hcz36_1 : wc.cell? ⟨gb368, 1, none⟩ = some (.int .u64 a0) := (blk_cell BK368.out 1).trans rfl
          have hfz36_0 := blk_frozen BK368.out 0
          have hfz36_1 := blk_frozen BK368.out 1
          have hnb37 := NB366_367.out
          have hnc37 := NB367_366.out
          have hcz38_0 : wc.cell? ⟨gb366, 0, none⟩ = some (.int .i64 a1_0) := (blk_cell BK366.out 0).trans rfl
          have hcz38_1 : wc.cell? ⟨gb366, 1, none⟩ = some (.int .u64 a1_1) := (blk_cell BK366.out 1).trans rfl
          have hfz38_0 := blk_frozen BK366.out 0
          have hfz38_1 := blk_frozen BK366.out 1
          have hcz39_0 : wc.cell? ⟨gb367, 0, none⟩ = some (.int .i64 0) := (blk_cell BK367.out 0).trans rfl
          have hcz39_1 : wc.cell? ⟨gb367, 1, none⟩ = some (.int .u64 0) := (blk_cell BK367.out 1).trans rfl
          have hfz39_0 := blk_frozen BK367.out 0
          have hfz39_1 := blk_frozen BK367.out 1
          go_wp2
          refine bodyPost_ret (results_cell_row rfl _ _ gb367 36 #[.int .i64 (wrap64 (a1_0 - 1)), .int .u64 a0] (0, 0) _ rfl (by (with_reducible repeat (first | refine blk_drewN ?_ _ | refine blk_drew ?_ | refine blk_alloc ?_ _)); refine blk_put (cs := #[.int .i64 (wrap64 (a1_0 - 1)), .int .u64 0]) ?_ 1 _ rfl; (with_reducible repeat (first | refine blk_drewN ?_ _ | refine blk_drew ?_ | refine blk_alloc ?_ _)); refine blk_put (cs := #[.int .i64 0, .int .u64 0]) ?_ 0 _ rfl; (with_reducible repeat (first | refine blk_drewN ?_ _ | refine blk_drew ?_ | refine blk_alloc ?_ _)); refine blk_far ?_ NB367_368.out _; (with_reducible repeat (first | refine blk_drewN ?_ _ | refine blk_drew ?_ | refine blk_alloc ?_ _)); exact BK367.out) Try.underlying36 rfl (by kernel_rfl)) rfl ?_
          exact ⟨by first | rfl | (simp [errW_none, errW_some] <;> rfl) | (simp [*, errW_none, errW_some] <;> rfl), by repeat (first | (with_reducible first | exact HB.out | apply below_alloc | apply pw_below_drewN | apply below_drew1 | refine below_set ?_ GE366.out | refine below_set ?_ GE367.out | refine below_set ?_ GE368.out) | exact HB.out)⟩
      · replace c19 := Bool.eq_false_iff.mpr c19
        subst c19
        have H1 : (if a0 < a1_1 then (if (IntKind.u64.wrap (a1_1 - a0)) > 9223372036854775808 then (some (wrap64 (a1_0 + 1), a0)) else (some (a1_0, a0))) else (some (a1_0, a0))) = some (r1, r2) := by rw [if_neg (show ¬ (false = true) by decide)] at H; exact H
        clear H
        have H := H1
        clear H1
        by_cases c40 : a0 < a1_1
        · rw [if_pos c40] at H
          have c40b0 : decide (a0 < a1_1) = true := decide_eq_true c40
          clear c40
          by_cases c41 : (IntKind.u64.wrap (a1_1 - a0)) > 9223372036854775808
          · rw [if_pos c41] at H
            have c41b0 : decide (9223372036854775808 < (IntKind.u64.wrap (a1_1 - a0))) = true := decide_eq_true c41
            clear c41
            simp only [Option.some.injEq, Prod.mk.injEq] at H
            obtain ⟨rfl, rfl⟩ := H
            have hnb42 := NB366_367.out
            have hnc42 := NB367_366.out
            have hnb43 := NB366_368.out
            have hnc43 := NB368_366.out
            have hcz44_0 : wc.cell? ⟨gb366, 0, none⟩ = some (.int .i64 a1_0) := (blk_cell BK366.out 0).trans rfl
            have hcz44_1 : wc.cell? ⟨gb366, 1, none⟩ = some (.int .u64 a1_1) := (blk_cell BK366.out 1).trans rfl
            have hfz44_0 := blk_frozen BK366.out 0
            have hfz44_1 := blk_frozen BK366.out 1
            have hnb45 := NB368_367.out
            have hnc45 := NB367_368.out
            have hcz46_0 : wc.cell? ⟨gb368, 0, none⟩ = some (.int .i64 a1_0) := (blk_cell BK368.out 0).trans rfl
            have hcz46_1 : wc.cell? ⟨gb368, 1, none⟩ = some (.int .u64 a0) := (blk_cell BK368.out 1).trans rfl
            have hfz46_0 := blk_frozen BK368.out 0
            have hfz46_1 := blk_frozen BK368.out 1
            have hcz47_0 : wc.cell? ⟨gb367, 0, none⟩ = some (.int .i64 0) := (blk_cell BK367.out 0).trans rfl
            have hcz47_1 : wc.cell? ⟨gb367, 1, none⟩ = some (.int .u64 0) := (blk_cell BK367.out 1).trans rfl
            have hfz47_0 := blk_frozen BK367.out 0
            have hfz47_1 := blk_frozen BK367.out 1
            go_wp2
            refine bodyPost_ret (results_cell_row rfl _ _ gb367 36 #[.int .i64 (wrap64 (a1_0 + 1)), .int .u64 a0] (0, 0) _ rfl (by (with_reducible repeat (first | refine blk_drewN ?_ _ | refine blk_drew ?_ | refine blk_alloc ?_ _)); refine blk_put (cs := #[.int .i64 (wrap64 (a1_0 + 1)), .int .u64 0]) ?_ 1 _ rfl; (with_reducible repeat (first | refine blk_drewN ?_ _ | refine blk_drew ?_ | refine blk_alloc ?_ _)); refine blk_put (cs := #[.int .i64 0, .int .u64 0]) ?_ 0 _ rfl; (with_reducible repeat (first | refine blk_drewN ?_ _ | refine blk_drew ?_ | refine blk_alloc ?_ _)); refine blk_far ?_ NB367_368.out _; (with_reducible repeat (first | refine blk_drewN ?_ _ | refine blk_drew ?_ | refine blk_alloc ?_ _)); exact BK367.out) Try.underlying36 rfl (by kernel_rfl)) rfl ?_
            exact ⟨by first | rfl | (simp [errW_none, errW_some] <;> rfl) | (simp [*, errW_none, errW_some] <;> rfl), by repeat (first | (with_reducible first | exact HB.out | apply below_alloc | apply pw_below_drewN | apply below_drew1 | refine below_set ?_ GE366.out | refine below_set ?_ GE367.out | refine below_set ?_ GE368.out) | exact HB.out)⟩
          · rw [if_neg c41] at H
            have c41b0 : decide (9223372036854775808 < (IntKind.u64.wrap (a1_1 - a0))) = false := decide_eq_false c41
            clear c41
            simp only [Option.some.injEq, Prod.mk.injEq] at H
            obtain ⟨rfl, rfl⟩ := H
            have hnb48 := NB366_367.out
            have hnc48 := NB367_366.out
            have hnb49 := NB366_368.out
            have hnc49 := NB368_366.out
            have hcz50_0 : wc.cell? ⟨gb366, 0, none⟩ = some (.int .i64 a1_0) := (blk_cell BK366.out 0).trans rfl
            have hcz50_1 : wc.cell? ⟨gb366, 1, none⟩ = some (.int .u64 a1_1) := (blk_cell BK366.out 1).trans rfl
            have hfz50_0 := blk_frozen BK366.out 0
            have hfz50_1 := blk_frozen BK366.out 1
            have hnb51 := NB368_367.out
            have hnc51 := NB367_368.out
            have hcz52_0 : wc.cell? ⟨gb368, 0, none⟩ = some (.int .i64 a1_0) := (blk_cell BK368.out 0).trans rfl
            have hcz52_1 : wc.cell? ⟨gb368, 1, none⟩ = some (.int .u64 a0) := (blk_cell BK368.out 1).trans rfl
            have hfz52_0 := blk_frozen BK368.out 0
            have hfz52_1 := blk_frozen BK368.out 1
            have hcz53_0 : wc.cell? ⟨gb367, 0, none⟩ = some (.int .i64 0) := (blk_cell BK367.out 0).trans rfl
            have hcz53_1 : wc.cell? ⟨gb367, 1, none⟩ = some (.int .u64 0) := (blk_cell BK367.out 1).trans rfl
            have hfz53_0 := blk_frozen BK367.out 0
            have hfz53_1 := blk_frozen BK367.out 1
            go_wp2
            refine bodyPost_ret (results_cell_row rfl _ _ gb367 36 #[.int .i64 a1_0, .int .u64 a0] (0, 0) _ rfl (by (with_reducible repeat (first | refine blk_drewN ?_ _ | refine blk_drew ?_ | refine blk_alloc ?_ _)); refine blk_put (cs := #[.int .i64 a1_0, .int .u64 0]) ?_ 1 _ rfl; (with_reducible repeat (first | refine blk_drewN ?_ _ | refine blk_drew ?_ | refine blk_alloc ?_ _)); refine blk_put (cs := #[.int .i64 0, .int .u64 0]) ?_ 0 _ rfl; (with_reducible repeat (first | refine blk_drewN ?_ _ | refine blk_drew ?_ | refine blk_alloc ?_ _)); exact BK367.out) Try.underlying36 rfl (by kernel_rfl)) rfl ?_
            exact ⟨by first | rfl | (simp [errW_none, errW_some] <;> rfl) | (simp [*, errW_none, errW_some] <;> rfl), by repeat (first | (with_reducible first | exact HB.out | apply below_alloc | apply pw_below_drewN | apply below_drew1 | refine below_set ?_ GE366.out | refine below_set ?_ GE367.out | refine below_set ?_ GE368.out) | exact HB.out)⟩
        · rw [if_neg c40] at H
          have c40b0 : decide (a0 < a1_1) = false := decide_eq_false c40
          clear c40
          simp only [Option.some.injEq, Prod.mk.injEq] at H
          obtain ⟨rfl, rfl⟩ := H
          have hnb54 := NB366_367.out
          have hnc54 := NB367_366.out
          have hnb55 := NB366_368.out
          have hnc55 := NB368_366.out
          have hcz56_0 : wc.cell? ⟨gb366, 0, none⟩ = some (.int .i64 a1_0) := (blk_cell BK366.out 0).trans rfl
          have hcz56_1 : wc.cell? ⟨gb366, 1, none⟩ = some (.int .u64 a1_1) := (blk_cell BK366.out 1).trans rfl
          have hfz56_0 := blk_frozen BK366.out 0
          have hfz56_1 := blk_frozen BK366.out 1
          have hnb57 := NB368_367.out
          have hnc57 := NB367_368.out
          have hcz58_0 : wc.cell? ⟨gb368, 0, none⟩ = some (.int .i64 a1_0) := (blk_cell BK368.out 0).trans rfl
          have hcz58_1 : wc.cell? ⟨gb368, 1, none⟩ = some (.int .u64 a0) := (blk_cell BK368.out 1).trans rfl
          have hfz58_0 := blk_frozen BK368.out 0
          have hfz58_1 := blk_frozen BK368.out 1
          have hcz59_0 : wc.cell? ⟨gb367, 0, none⟩ = some (.int .i64 0) := (blk_cell BK367.out 0).trans rfl
          have hcz59_1 : wc.cell? ⟨gb367, 1, none⟩ = some (.int .u64 0) := (blk_cell BK367.out 1).trans rfl
          have hfz59_0 := blk_frozen BK367.out 0
          have hfz59_1 := blk_frozen BK367.out 1
          go_wp2
          refine bodyPost_ret (results_cell_row rfl _ _ gb367 36 #[.int .i64 a1_0, .int .u64 a0] (0, 0) _ rfl (by (with_reducible repeat (first | refine blk_drewN ?_ _ | refine blk_drew ?_ | refine blk_alloc ?_ _)); refine blk_put (cs := #[.int .i64 a1_0, .int .u64 0]) ?_ 1 _ rfl; (with_reducible repeat (first | refine blk_drewN ?_ _ | refine blk_drew ?_ | refine blk_alloc ?_ _)); refine blk_put (cs := #[.int .i64 0, .int .u64 0]) ?_ 0 _ rfl; (with_reducible repeat (first | refine blk_drewN ?_ _ | refine blk_drew ?_ | refine blk_alloc ?_ _)); exact BK367.out) Try.underlying36 rfl (by kernel_rfl)) rfl ?_
          exact ⟨by first | rfl | (simp [errW_none, errW_some] <;> rfl) | (simp [*, errW_none, errW_some] <;> rfl), by repeat (first | (with_reducible first | exact HB.out | apply below_alloc | apply pw_below_drewN | apply below_drew1 | refine below_set ?_ GE366.out | refine below_set ?_ GE367.out | refine below_set ?_ GE368.out) | exact HB.out)⟩

end Go.Proofs.Ytbondhnhiinlbaa.Pr
