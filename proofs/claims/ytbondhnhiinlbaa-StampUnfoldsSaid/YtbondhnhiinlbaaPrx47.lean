-- PRINTED by print.py (a twelfth state) out of the translation. Not trusted: Lean checks it.
import Derived.Test.YtbondhnhiinlbaaPrx0
namespace Go.Proofs.Ytbondhnhiinlbaa.Pr
open Go.RowKit Go.Proofs.YtbondhnhiinlbaaW.PrintWords Go.Proofs.YtbondhnhiinlbaaW.PrintLast Go.Proofs.YtbondhnhiinlbaaW.PrintMore
attribute [local go_sem] max2_int min2_int max_two min_two max_three min_three max_four min_four   -- for this text's walks alone
set_option linter.unusedVariables false
set_option linter.unusedSimpArgs false

/-! ### stamp_Unfold: function 31 -/
def stamp_Unfold.j0 : Nat → Int → Int → Bool → Int → Int → Option (Int × Int)
  | 0, _, _, _, _, _ => none
  | k + 1, x0, x5, x11, x365000, x365001 => if x11 = true then (some (wrap64 (x365000 + 1), x0)) else (if x5 < 0 then (if x0 > x365001 then (some (wrap64 (x365000 - 1), x0)) else (some (x365000, x0))) else (some (x365000, x0)))
def stamp_Unfold.f (k : Nat) (a0 : Int) (a1_0 : Int) (a1_1 : Int) : Option (Int × Int) := if (wrap64 (IntKind.u64.wrap (a0 - a1_1))) ≥ 0 then (stamp_Unfold.j0 k a0 (wrap64 (IntKind.u64.wrap (a0 - a1_1))) (decide (a0 < a1_1)) a1_0 a1_1) else (stamp_Unfold.j0 k a0 (wrap64 (IntKind.u64.wrap (a0 - a1_1))) false a1_0 a1_1)
theorem stamp_Unfold.mono_l : ∀ k, (∀ y0 y1 y2 y3 y4, LeO (stamp_Unfold.j0 k y0 y1 y2 y3 y4) (stamp_Unfold.j0 (k + 1) y0 y1 y2 y3 y4))
  | 0 => fun _ _ _ _ _ r h => by simp [stamp_Unfold.j0] at h
  | k + 1 => by
    have ih0 := stamp_Unfold.mono_l k
    · intro y0 y1 y2 y3 y4
      unfold stamp_Unfold.j0
      repeat' first
      | (with_reducible exact ih0 _ _ _ _ _)
      | (with_reducible exact LeO.refl _)
      | (with_reducible exact LeO.none _)
      | (with_reducible refine LeO.ite ?_ ?_)
      | (with_reducible refine LeO.bind ?_ (fun _ => ?_))
      | exact ih0 _ _ _ _ _
      | exact LeO.none _
      | refine LeO.ite ?_ ?_
      | refine LeO.bind ?_ (fun _ => ?_)
theorem stamp_Unfold.mono : ∀ a0 a1 a2 k, LeO (stamp_Unfold.f k a0 a1 a2) (stamp_Unfold.f (k + 1) a0 a1 a2) := by
  intro a0 a1 a2 k
  have ih0 := stamp_Unfold.mono_l k
  unfold stamp_Unfold.f
  repeat' first
      | (with_reducible exact ih0 _ _ _ _ _)
      | (with_reducible exact LeO.refl _)
      | (with_reducible exact LeO.none _)
      | (with_reducible refine LeO.ite ?_ ?_)
      | (with_reducible refine LeO.bind ?_ (fun _ => ?_))
      | exact ih0 _ _ _ _ _
      | exact LeO.none _
      | refine LeO.ite ?_ ?_
      | refine LeO.bind ?_ (fun _ => ?_)
set_option maxHeartbeats 8000000 in
set_option maxRecDepth 100000 in
theorem stamp_Unfold.calls (k : Nat) (a0 : Int) (a1_0 : Int) (a1_1 : Int) (r1 : Int) (r2 : Int) (w : World) (h : stamp_Unfold.f k a0 a1_0 a1_1 = some (r1, r2)) :
    Calls Try.prog 31 #[.int .u64 a0, .agg #[.int .i64 a1_0, .int .u64 a1_1]] w fun e w' => e = .returned (.agg #[.int .i64 r1, .int .u64 r2]) ∧ Below w.heap.size w w' := by
  have hu25 := Try.underlying25
  have HB := Aside0.mk (Below.refl w.heap.size w)
  have H : (if (wrap64 (IntKind.u64.wrap (a0 - a1_1))) ≥ 0 then (stamp_Unfold.j0 k a0 (wrap64 (IntKind.u64.wrap (a0 - a1_1))) (decide (a0 < a1_1)) a1_0 a1_1) else (stamp_Unfold.j0 k a0 (wrap64 (IntKind.u64.wrap (a0 - a1_1))) false a1_0 a1_1)) = some (r1, r2) := h
  clear h
  have HC3 := Aside0.mk H
  clear H
  go_enter Try.func31, Try.ntmps31
  go_upto_region 2 with (first | ((with_reducible refine gate_dst (N := 3) rfl ?_); refine box_event ?hg (N := 3) ?hd (cs := #[.int .i64 a1_0, .int .u64 a1_1]) (t := 25) ?hr ?_; (case hd => rfl); (case hg => rfl); (case hr => first | (go_simp; done) | (go_simp; rfl)); intro gb364 hg w4 hbox hb; have n0_ := Aside0.mk (below_step (by repeat (first | (with_reducible first | exact HB.out | apply below_alloc | apply pw_below_drewN | apply below_drew1) | exact HB.out)) hb); have n1_ := Aside0.mk (hbox); have n2_ := Aside0.mk ((by rw [hg]; exact (below_size (by repeat (first | (with_reducible first | exact HB.out | apply below_alloc | apply pw_below_drewN | apply below_drew1) | exact HB.out))) : w.heap.size ≤ gb364)); have n3_ := Aside0.mk ((by rw [hg]; exact (below_size (by repeat (first | (with_reducible first | exact HB.out | apply below_alloc | apply pw_below_drewN | apply below_drew1) | exact HB.out))) : w.heap.size ≤ gb364)); clear HB; have HB := n0_; have BK364 := n1_; have GW364 := n2_; have GE364 := n3_; clear n0_ n1_ n2_ n3_; clear hb hbox hg) | ((with_reducible refine gate_dst (N := 4) rfl ?_); refine box_event ?hg (N := 4) ?hd (cs := #[.int .i64 0, .int .u64 0]) (t := 25) ?hr ?_; (case hd => rfl); (case hg => rfl); (case hr => first | (go_simp; done) | (go_simp; rfl)); intro gb365 hg w5 hbox hb; have n0_ := Aside0.mk (blk_below (g := gb364) (o := .cells #[.int .i64 a1_0, .int .u64 a1_1] 25 (0, 0)) (by (with_reducible repeat (first | refine blk_drewN ?_ _ | refine blk_drew ?_ | refine blk_alloc ?_ _)); exact BK364.out) hb); have n1_ := Aside0.mk (below_step (by repeat (first | (with_reducible first | exact HB.out | apply below_alloc | apply pw_below_drewN | apply below_drew1 | refine below_set ?_ GE364.out) | exact HB.out)) hb); have n2_ := Aside0.mk (hbox); have n3_ := Aside0.mk ((by rw [hg]; exact (below_size (by repeat (first | (with_reducible first | exact HB.out | apply below_alloc | apply pw_below_drewN | apply below_drew1 | refine below_set ?_ GE364.out) | exact HB.out))) : w.heap.size ≤ gb365)); have n4_ := Aside0.mk ((by rw [hg]; exact (below_size (by repeat (first | (with_reducible first | exact HB.out | apply below_alloc | apply pw_below_drewN | apply below_drew1 | refine below_set ?_ GE364.out) | exact HB.out))) : w.heap.size ≤ gb365)); have n5_ := Aside0.mk ((by rw [hg]; exact Nat.ne_of_lt (blk_lt (g := gb364) (o := .cells #[.int .i64 a1_0, .int .u64 a1_1] 25 (0, 0)) (by (with_reducible repeat (first | refine blk_drewN ?_ _ | refine blk_drew ?_ | refine blk_alloc ?_ _)); exact BK364.out)) : gb364 ≠ gb365)); have n6_ := Aside0.mk ((by rw [hg]; exact Nat.ne_of_gt (blk_lt (g := gb364) (o := .cells #[.int .i64 a1_0, .int .u64 a1_1] 25 (0, 0)) (by (with_reducible repeat (first | refine blk_drewN ?_ _ | refine blk_drew ?_ | refine blk_alloc ?_ _)); exact BK364.out)) : gb365 ≠ gb364)); clear BK364; clear HB; have BK364 := n0_; have HB := n1_; have BK365 := n2_; have GW365 := n3_; have GE365 := n4_; have NB364_365 := n5_; have NB365_364 := n6_; clear n0_ n1_ n2_ n3_ n4_ n5_ n6_; clear hb hbox hg; have hnb6 := NB364_365.out; have hnc6 := NB365_364.out; have hcz7_0 : w5.cell? ⟨gb364, 0, none⟩ = some (.int .i64 a1_0) := (blk_cell BK364.out 0).trans rfl; have hcz7_1 : w5.cell? ⟨gb364, 1, none⟩ = some (.int .u64 a1_1) := (blk_cell BK364.out 1).trans rfl; have hfz7_0 := blk_frozen BK364.out 0; have hfz7_1 := blk_frozen BK364.out 1))
  (try simp only [Act.put, List.setIfInBounds_toArray, List.set_cons_zero, List.set_cons_succ])
  go_cut [11] (fun v11 wc => ∃ (kq : Nat) (x11_2 : Bool), v11 = .bool x11_2 ∧ Aside0 (stamp_Unfold.j0 kq a0 (wrap64 (IntKind.u64.wrap (a0 - a1_1))) x11_2 a1_0 a1_1 = some (r1, r2)) ∧ Aside0 (kq ≤ k) ∧ Aside0 (wc.heap[gb364]? = some (.cells #[.int .i64 a1_0, .int .u64 a1_1] 25 (0, 0))) ∧ Aside0 (wc.heap[gb365]? = some (.cells #[.int .i64 0, .int .u64 0] 25 (0, 0))) ∧ Aside0 (Below w.heap.size w wc))
  case first =>
    have H := HC3.out
    clear HC3
    by_cases c8 : (wrap64 (IntKind.u64.wrap (a0 - a1_1))) ≥ 0
    · rw [if_pos c8] at H
      have c8b0 : decide (0 ≤ (wrap64 (IntKind.u64.wrap (a0 - a1_1)))) = true := decide_eq_true c8
      clear c8
      (first | rw [c8b0] | (simp only [i64_w, i32_w]; rw [c8b0]) | skip)
      have H' := Aside0.mk H
      clear H
      have hnb9 := NB364_365.out
      have hnc9 := NB365_364.out
      have hcz10_0 : w5.cell? ⟨gb364, 0, none⟩ = some (.int .i64 a1_0) := (blk_cell BK364.out 0).trans rfl
      have hcz10_1 : w5.cell? ⟨gb364, 1, none⟩ = some (.int .u64 a1_1) := (blk_cell BK364.out 1).trans rfl
      have hfz10_0 := blk_frozen BK364.out 0
      have hfz10_1 := blk_frozen BK364.out 1
      go_wp2
      go_meet
      case rel => exact ⟨_, (decide (a0 < a1_1)), (by first | rfl | (simp; done) | (simp [*]; done)), H', ⟨by first | omega | exact Nat.le_refl _⟩, ⟨by (with_reducible repeat (first | refine blk_drewN ?_ _ | refine blk_drew ?_ | refine blk_alloc ?_ _)); exact BK364.out⟩, ⟨by (with_reducible repeat (first | refine blk_drewN ?_ _ | refine blk_drew ?_ | refine blk_alloc ?_ _)); exact BK365.out⟩, ⟨by repeat (first | (with_reducible first | exact HB.out | apply below_alloc | apply pw_below_drewN | apply below_drew1 | refine below_set ?_ GE364.out | refine below_set ?_ GE365.out) | exact HB.out)⟩⟩
    · rw [if_neg c8] at H
      have c8b0 : decide (0 ≤ (wrap64 (IntKind.u64.wrap (a0 - a1_1)))) = false := decide_eq_false c8
      clear c8
      (first | rw [c8b0] | (simp only [i64_w, i32_w]; rw [c8b0]) | skip)
      have H' := Aside0.mk H
      clear H
      go_wp2
      go_meet
      case rel => exact ⟨_, (false), (by first | rfl | (simp; done) | (simp [*]; done)), H', ⟨by first | omega | exact Nat.le_refl _⟩, ⟨by (with_reducible repeat (first | refine blk_drewN ?_ _ | refine blk_drew ?_ | refine blk_alloc ?_ _)); exact BK364.out⟩, ⟨by (with_reducible repeat (first | refine blk_drewN ?_ _ | refine blk_drew ?_ | refine blk_alloc ?_ _)); exact BK365.out⟩, ⟨by repeat (first | (with_reducible first | exact HB.out | apply below_alloc | apply pw_below_drewN | apply below_drew1 | refine below_set ?_ GE364.out | refine below_set ?_ GE365.out) | exact HB.out)⟩⟩
  case rest =>
    clear HC3
    try clear p2
    try clear c3
    try clear c6
    try clear p6
    try clear c8
    try clear c8b0
    try clear c9
    try clear hcz10_0
    try clear hcz10_1
    try clear hcz7_0
    try clear hcz7_1
    try clear hfz10_0
    try clear hfz10_1
    try clear hfz7_0
    try clear hfz7_1
    obtain ⟨kq, x11_2, rfl, HA, HJ2, BK364, BK365, HB⟩ := hcut
    cases kq with
    | zero => exact absurd HA.out (by simp [stamp_Unfold.j0])
    | succ kj2 =>
      have H := HA.out
      clear HA
      simp only [stamp_Unfold.j0] at H
      by_cases c11 : x11_2 = true
      · subst c11
        have H1 : (some (wrap64 (a1_0 + 1), a0)) = some (r1, r2) := by rw [if_pos rfl] at H; exact H
        clear H
        have H := H1
        clear H1
        simp only [Option.some.injEq, Prod.mk.injEq] at H
        obtain ⟨rfl, rfl⟩ := H
        have hnb12 := NB364_365.out
        have hnc12 := NB365_364.out
        have hcz13_0 : wc.cell? ⟨gb364, 0, none⟩ = some (.int .i64 a1_0) := (blk_cell BK364.out 0).trans rfl
        have hcz13_1 : wc.cell? ⟨gb364, 1, none⟩ = some (.int .u64 a1_1) := (blk_cell BK364.out 1).trans rfl
        have hfz13_0 := blk_frozen BK364.out 0
        have hfz13_1 := blk_frozen BK364.out 1
        have hcz14_0 : wc.cell? ⟨gb365, 0, none⟩ = some (.int .i64 0) := (blk_cell BK365.out 0).trans rfl
        have hcz14_1 : wc.cell? ⟨gb365, 1, none⟩ = some (.int .u64 0) := (blk_cell BK365.out 1).trans rfl
        have hfz14_0 := blk_frozen BK365.out 0
        have hfz14_1 := blk_frozen BK365.out 1
        go_wp2
        refine bodyPost_ret (results_cell_row rfl _ _ gb365 25 #[.int .i64 (wrap64 (a1_0 + 1)), .int .u64 a0] (0, 0) _ rfl (by (with_reducible repeat (first | refine blk_drewN ?_ _ | refine blk_drew ?_ | refine blk_alloc ?_ _)); refine blk_put (cs := #[.int .i64 (wrap64 (a1_0 + 1)), .int .u64 0]) ?_ 1 _ rfl; (with_reducible repeat (first | refine blk_drewN ?_ _ | refine blk_drew ?_ | refine blk_alloc ?_ _)); refine blk_put (cs := #[.int .i64 0, .int .u64 0]) ?_ 0 _ rfl; (with_reducible repeat (first | refine blk_drewN ?_ _ | refine blk_drew ?_ | refine blk_alloc ?_ _)); exact BK365.out) Try.underlying25 rfl (by kernel_rfl)) rfl ?_
        exact ⟨by first | rfl | (simp [errW_none, errW_some] <;> rfl) | (simp [*, errW_none, errW_some] <;> rfl), by repeat (first | (with_reducible first | exact HB.out | apply below_alloc | apply pw_below_drewN | apply below_drew1 | refine below_set ?_ GE364.out | refine below_set ?_ GE365.out) | exact HB.out)⟩
      · replace c11 := Bool.eq_false_iff.mpr c11
        subst c11
        have H1 : (if (wrap64 (IntKind.u64.wrap (a0 - a1_1))) < 0 then (if a0 > a1_1 then (some (wrap64 (a1_0 - 1), a0)) else (some (a1_0, a0))) else (some (a1_0, a0))) = some (r1, r2) := by rw [if_neg (show ¬ (false = true) by decide)] at H; exact H
        clear H
        have H := H1
        clear H1
        by_cases c15 : (wrap64 (IntKind.u64.wrap (a0 - a1_1))) < 0
        · rw [if_pos c15] at H
          have c15b0 : decide ((wrap64 (IntKind.u64.wrap (a0 - a1_1))) < 0) = true := decide_eq_true c15
          clear c15
          by_cases c16 : a0 > a1_1
          · rw [if_pos c16] at H
            have c16b0 : decide (a1_1 < a0) = true := decide_eq_true c16
            clear c16
            simp only [Option.some.injEq, Prod.mk.injEq] at H
            obtain ⟨rfl, rfl⟩ := H
            have hnb17 := NB364_365.out
            have hnc17 := NB365_364.out
            have hcz18_0 : wc.cell? ⟨gb364, 0, none⟩ = some (.int .i64 a1_0) := (blk_cell BK364.out 0).trans rfl
            have hcz18_1 : wc.cell? ⟨gb364, 1, none⟩ = some (.int .u64 a1_1) := (blk_cell BK364.out 1).trans rfl
            have hfz18_0 := blk_frozen BK364.out 0
            have hfz18_1 := blk_frozen BK364.out 1
            have hcz19_0 : wc.cell? ⟨gb365, 0, none⟩ = some (.int .i64 0) := (blk_cell BK365.out 0).trans rfl
            have hcz19_1 : wc.cell? ⟨gb365, 1, none⟩ = some (.int .u64 0) := (blk_cell BK365.out 1).trans rfl
            have hfz19_0 := blk_frozen BK365.out 0
            have hfz19_1 := blk_frozen BK365.out 1
            go_wp2
            refine bodyPost_ret (results_cell_row rfl _ _ gb365 25 #[.int .i64 (wrap64 (a1_0 - 1)), .int .u64 a0] (0, 0) _ rfl (by (with_reducible repeat (first | refine blk_drewN ?_ _ | refine blk_drew ?_ | refine blk_alloc ?_ _)); refine blk_put (cs := #[.int .i64 (wrap64 (a1_0 - 1)), .int .u64 0]) ?_ 1 _ rfl; (with_reducible repeat (first | refine blk_drewN ?_ _ | refine blk_drew ?_ | refine blk_alloc ?_ _)); refine blk_put (cs := #[.int .i64 0, .int .u64 0]) ?_ 0 _ rfl; (with_reducible repeat (first | refine blk_drewN ?_ _ | refine blk_drew ?_ | refine blk_alloc ?_ _)); exact BK365.out) Try.underlying25 rfl (by kernel_rfl)) rfl ?_
            exact ⟨by first | rfl | (simp [errW_none, errW_some] <;> rfl) | (simp [*, errW_none, errW_some] <;> rfl), by repeat (first | (with_reducible first | exact HB.out | apply below_alloc | apply pw_below_drewN | apply below_drew1 | refine below_set ?_ GE364.out | refine below_set ?_ GE365.out) | exact HB.out)⟩
          · rw [if_neg c16] at H
            have c16b0 : decide (a1_1 < a0) = false := decide_eq_false c16
            clear c16
            simp only [Option.some.injEq, Prod.mk.injEq] at H
            obtain ⟨rfl, rfl⟩ := H
            have hnb20 := NB364_365.out
            have hnc20 := NB365_364.out
            have hcz21_0 : wc.cell? ⟨gb364, 0, none⟩ = some (.int .i64 a1_0) := (blk_cell BK364.out 0).trans rfl
            have hcz21_1 : wc.cell? ⟨gb364, 1, none⟩ = some (.int .u64 a1_1) := (blk_cell BK364.out 1).trans rfl
            have hfz21_0 := blk_frozen BK364.out 0
            have hfz21_1 := blk_frozen BK364.out 1
            have hcz22_0 : wc.cell? ⟨gb365, 0, none⟩ = some (.int .i64 0) := (blk_cell BK365.out 0).trans rfl
            have hcz22_1 : wc.cell? ⟨gb365, 1, none⟩ = some (.int .u64 0) := (blk_cell BK365.out 1).trans rfl
            have hfz22_0 := blk_frozen BK365.out 0
            have hfz22_1 := blk_frozen BK365.out 1
            go_wp2
            refine bodyPost_ret (results_cell_row rfl _ _ gb365 25 #[.int .i64 a1_0, .int .u64 a0] (0, 0) _ rfl (by (with_reducible repeat (first | refine blk_drewN ?_ _ | refine blk_drew ?_ | refine blk_alloc ?_ _)); refine blk_put (cs := #[.int .i64 a1_0, .int .u64 0]) ?_ 1 _ rfl; (with_reducible repeat (first | refine blk_drewN ?_ _ | refine blk_drew ?_ | refine blk_alloc ?_ _)); refine blk_put (cs := #[.int .i64 0, .int .u64 0]) ?_ 0 _ rfl; (with_reducible repeat (first | refine blk_drewN ?_ _ | refine blk_drew ?_ | refine blk_alloc ?_ _)); exact BK365.out) Try.underlying25 rfl (by kernel_rfl)) rfl ?_
            exact ⟨by first | rfl | (simp [errW_none, errW_some] <;> rfl) | (simp [*, errW_none, errW_some] <;> rfl), by repeat (first | (with_reducible first | exact HB.out | apply below_alloc | apply pw_below_drewN | apply below_drew1 | refine below_set ?_ GE364.out | refine below_set ?_ GE365.out) | exact HB.out)⟩
        · rw [if_neg c15] at H
          have c15b0 : decide ((wrap64 (IntKind.u64.wrap (a0 - a1_1))) < 0) = false := decide_eq_false c15
          clear c15
          simp only [Option.some.injEq, Prod.mk.injEq] at H
          obtain ⟨rfl, rfl⟩ := H
          have hnb23 := NB364_365.out
          have hnc23 := NB365_364.out
          have hcz24_0 : wc.cell? ⟨gb364, 0, none⟩ = some (.int .i64 a1_0) := (blk_cell BK364.out 0).trans rfl
          have hcz24_1 : wc.cell? ⟨gb364, 1, none⟩ = some (.int .u64 a1_1) := (blk_cell BK364.out 1).trans rfl
          have hfz24_0 := blk_frozen BK364.out 0
          have hfz24_1 := blk_frozen BK364.out 1
          have hcz25_0 : wc.cell? ⟨gb365, 0, none⟩ = some (.int .i64 0) := (blk_cell BK365.out 0).trans rfl
          have hcz25_1 : wc.cell? ⟨gb365, 1, none⟩ = some (.int .u64 0) := (blk_cell BK365.out 1).trans rfl
          have hfz25_0 := blk_frozen BK365.out 0
          have hfz25_1 := blk_frozen BK365.out 1
          go_wp2
          refine bodyPost_ret (results_cell_row rfl _ _ gb365 25 #[.int .i64 a1_0, .int .u64 a0] (0, 0) _ rfl (by (with_reducible repeat (first | refine blk_drewN ?_ _ | refine blk_drew ?_ | refine blk_alloc ?_ _)); refine blk_put (cs := #[.int .i64 a1_0, .int .u64 0]) ?_ 1 _ rfl; (with_reducible repeat (first | refine blk_drewN ?_ _ | refine blk_drew ?_ | refine blk_alloc ?_ _)); refine blk_put (cs := #[.int .i64 0, .int .u64 0]) ?_ 0 _ rfl; (with_reducible repeat (first | refine blk_drewN ?_ _ | refine blk_drew ?_ | refine blk_alloc ?_ _)); exact BK365.out) Try.underlying25 rfl (by kernel_rfl)) rfl ?_
          exact ⟨by first | rfl | (simp [errW_none, errW_some] <;> rfl) | (simp [*, errW_none, errW_some] <;> rfl), by repeat (first | (with_reducible first | exact HB.out | apply below_alloc | apply pw_below_drewN | apply below_drew1 | refine below_set ?_ GE364.out | refine below_set ?_ GE365.out) | exact HB.out)⟩

end Go.Proofs.Ytbondhnhiinlbaa.Pr
