/- Printed walks, packed. -/
import Derived.Test.YtbondhnhiinlbaaTK0
namespace Go.Proofs.Ytbondhnhiinlbaa.Pr
open Go.RowKit Go.Proofs.YtbondhnhiinlbaaW.PrintWords Go.Proofs.YtbondhnhiinlbaaW.PrintLast Go.Proofs.YtbondhnhiinlbaaW.PrintMore
attribute [local go_sem] max2_int min2_int max_two min_two max_three min_three max_four min_four   -- for this text's walks alone
set_option linter.unusedVariables false
set_option linter.unusedSimpArgs false

/-! ### foliotref02_OfDate: function 15 -/
mutual
def foliotref02_OfDate.j0 : Nat → Bool → Int → Int → Option (Int × Int × Int × Int × Int × Int × Int × Int)
 | 0, _, _, _ => none
 | k + 1, x14, x184000, x184001 => if x14 = true then (some (0, 0, 0, 0, 0, 0, 0, 20)) else ((foliotref02_first.f k 1900).bind fun t185 => (if (wrap64 ((wrap64 ((wrap64 (x184000 * 4294967296)) + (wrap64 (x184001 / 4294967296)))) + (wrap64 (t185 * 86400)))) < 0 then (foliotref02_OfDate.j1 k (wrap64 ((wrap64 ((wrap64 (x184000 * 4294967296)) + (wrap64 (x184001 / 4294967296)))) + (wrap64 (t185 * 86400)))) true x184000 x184001) else ((foliotref02_first.f k 2101).bind fun t186 => (foliotref02_OfDate.j1 k (wrap64 ((wrap64 ((wrap64 (x184000 * 4294967296)) + (wrap64 (x184001 / 4294967296)))) + (wrap64 (t185 * 86400)))) (decide ((wrap64 ((wrap64 ((wrap64 (x184000 * 4294967296)) + (wrap64 (x184001 / 4294967296)))) + (wrap64 (t185 * 86400)))) ≥ (wrap64 (t186 * 86400)))) x184000 x184001))))
def foliotref02_OfDate.j1 : Nat → Int → Bool → Int → Int → Option (Int × Int × Int × Int × Int × Int × Int × Int)
 | 0, _, _, _, _ => none
 | k + 1, x4, x34, x184000, x184001 => if x34 = true then (some (0, 0, 0, 0, 0, 0, 0, 20)) else (foliotref02_OfDate.l0 k (wrap64 (Int.tdiv x4 86400)) 1 1 0 (Int.tmod (wrap64 (Int.tdiv x4 3600)) 24) (Int.tmod (wrap64 (Int.tdiv x4 60)) 60) (Int.tmod x4 60) ((x184001) % 4294967296))
def foliotref02_OfDate.l0 : Nat → Int → Int → Int → Int → Int → Int → Int → Int → Option (Int × Int × Int × Int × Int × Int × Int × Int)
 | 0, _, _, _, _, _, _, _, _ => none
 | k + 1, x6, x188000, x188001, x188002, x188003, x188004, x188005, x188006 => (foliotref02_days.f x188000).bind fun t188 => (if x6 ≥ t188 then ((foliotref02_days.f x188000).bind fun t189 => (foliotref02_OfDate.l0 k (wrap64 (x6 - t189)) (wrap64 (x188000 + 1)) x188001 x188002 x188003 x188004 x188005 x188006)) else (foliotref02_OfDate.l1 k x6 x188000 x188001 x188002 x188003 x188004 x188005 x188006))
def foliotref02_OfDate.l1 : Nat → Int → Int → Int → Int → Int → Int → Int → Int → Option (Int × Int × Int × Int × Int × Int × Int × Int)
 | 0, _, _, _, _, _, _, _, _ => none
 | k + 1, x6, x188000, x188001, x188002, x188003, x188004, x188005, x188006 => (foliotref02_month.f k x188000 x188001).bind fun t190 => (if x6 ≥ t190 then ((foliotref02_month.f k x188000 x188001).bind fun t191 => (foliotref02_OfDate.l1 k (wrap64 (x6 - t191)) x188000 (wrap64 (x188001 + 1)) x188002 x188003 x188004 x188005 x188006)) else (some (x188000, x188001, wrap64 (x6 + 1), x188003, x188004, x188005, x188006, 0)))
end
def foliotref02_OfDate.f (k : Nat) (a0_0 : Int) (a0_1 : Int) : Option (Int × Int × Int × Int × Int × Int × Int × Int) := if a0_0 < (-20) then (foliotref02_OfDate.j0 k true a0_0 a0_1) else (foliotref02_OfDate.j0 k (decide (a0_0 > 20)) a0_0 a0_1)
theorem foliotref02_OfDate.mono_l : ∀ k, (∀ y0 y1 y2, LeO (foliotref02_OfDate.j0 k y0 y1 y2) (foliotref02_OfDate.j0 (k + 1) y0 y1 y2)) ∧ (∀ y0 y1 y2 y3, LeO (foliotref02_OfDate.j1 k y0 y1 y2 y3) (foliotref02_OfDate.j1 (k + 1) y0 y1 y2 y3)) ∧ (∀ y0 y1 y2 y3 y4 y5 y6 y7, LeO (foliotref02_OfDate.l0 k y0 y1 y2 y3 y4 y5 y6 y7) (foliotref02_OfDate.l0 (k + 1) y0 y1 y2 y3 y4 y5 y6 y7)) ∧ (∀ y0 y1 y2 y3 y4 y5 y6 y7, LeO (foliotref02_OfDate.l1 k y0 y1 y2 y3 y4 y5 y6 y7) (foliotref02_OfDate.l1 (k + 1) y0 y1 y2 y3 y4 y5 y6 y7))
 | 0 => ⟨fun _ _ _ r h => by simp [foliotref02_OfDate.j0] at h, fun _ _ _ _ r h => by simp [foliotref02_OfDate.j1] at h, fun _ _ _ _ _ _ _ _ r h => by simp [foliotref02_OfDate.l0] at h, fun _ _ _ _ _ _ _ _ r h => by simp [foliotref02_OfDate.l1] at h⟩
 | k + 1 => by
  obtain ⟨ih0, ih1, ih2, ih3⟩ := foliotref02_OfDate.mono_l k
  refine ⟨?_, ?_, ?_, ?_⟩
  ·intro y0 y1 y2
   unfold foliotref02_OfDate.j0
   repeat' first
   | (with_reducible exact ih0 _ _ _)
   | (with_reducible exact ih1 _ _ _ _)
   | (with_reducible exact ih2 _ _ _ _ _ _ _ _)
   | (with_reducible exact ih3 _ _ _ _ _ _ _ _)
   | (with_reducible exact foliotref02_first.mono _ _)
   | (with_reducible exact foliotref02_month.mono _ _ _)
   | (with_reducible exact LeO.refl _)
   | (with_reducible exact LeO.none _)
   | (with_reducible refine LeO.ite ?_ ?_)
   | (with_reducible refine LeO.bind ?_ (fun _ => ?_))
   | exact ih0 _ _ _
   | exact ih1 _ _ _ _
   | exact ih2 _ _ _ _ _ _ _ _
   | exact ih3 _ _ _ _ _ _ _ _
   | exact foliotref02_first.mono _ _
   | exact foliotref02_month.mono _ _ _
   | exact LeO.none _
   | refine LeO.ite ?_ ?_
   | refine LeO.bind ?_ (fun _ => ?_)
  ·intro y0 y1 y2 y3
   unfold foliotref02_OfDate.j1
   repeat' first
   | (with_reducible exact ih0 _ _ _)
   | (with_reducible exact ih1 _ _ _ _)
   | (with_reducible exact ih2 _ _ _ _ _ _ _ _)
   | (with_reducible exact ih3 _ _ _ _ _ _ _ _)
   | (with_reducible exact foliotref02_first.mono _ _)
   | (with_reducible exact foliotref02_month.mono _ _ _)
   | (with_reducible exact LeO.refl _)
   | (with_reducible exact LeO.none _)
   | (with_reducible refine LeO.ite ?_ ?_)
   | (with_reducible refine LeO.bind ?_ (fun _ => ?_))
   | exact ih0 _ _ _
   | exact ih1 _ _ _ _
   | exact ih2 _ _ _ _ _ _ _ _
   | exact ih3 _ _ _ _ _ _ _ _
   | exact foliotref02_first.mono _ _
   | exact foliotref02_month.mono _ _ _
   | exact LeO.none _
   | refine LeO.ite ?_ ?_
   | refine LeO.bind ?_ (fun _ => ?_)
  ·intro y0 y1 y2 y3 y4 y5 y6 y7
   unfold foliotref02_OfDate.l0
   repeat' first
   | (with_reducible exact ih0 _ _ _)
   | (with_reducible exact ih1 _ _ _ _)
   | (with_reducible exact ih2 _ _ _ _ _ _ _ _)
   | (with_reducible exact ih3 _ _ _ _ _ _ _ _)
   | (with_reducible exact foliotref02_first.mono _ _)
   | (with_reducible exact foliotref02_month.mono _ _ _)
   | (with_reducible exact LeO.refl _)
   | (with_reducible exact LeO.none _)
   | (with_reducible refine LeO.ite ?_ ?_)
   | (with_reducible refine LeO.bind ?_ (fun _ => ?_))
   | exact ih0 _ _ _
   | exact ih1 _ _ _ _
   | exact ih2 _ _ _ _ _ _ _ _
   | exact ih3 _ _ _ _ _ _ _ _
   | exact foliotref02_first.mono _ _
   | exact foliotref02_month.mono _ _ _
   | exact LeO.none _
   | refine LeO.ite ?_ ?_
   | refine LeO.bind ?_ (fun _ => ?_)
  ·intro y0 y1 y2 y3 y4 y5 y6 y7
   unfold foliotref02_OfDate.l1
   repeat' first
   | (with_reducible exact ih0 _ _ _)
   | (with_reducible exact ih1 _ _ _ _)
   | (with_reducible exact ih2 _ _ _ _ _ _ _ _)
   | (with_reducible exact ih3 _ _ _ _ _ _ _ _)
   | (with_reducible exact foliotref02_first.mono _ _)
   | (with_reducible exact foliotref02_month.mono _ _ _)
   | (with_reducible exact LeO.refl _)
   | (with_reducible exact LeO.none _)
   | (with_reducible refine LeO.ite ?_ ?_)
   | (with_reducible refine LeO.bind ?_ (fun _ => ?_))
   | exact ih0 _ _ _
   | exact ih1 _ _ _ _
   | exact ih2 _ _ _ _ _ _ _ _
   | exact ih3 _ _ _ _ _ _ _ _
   | exact foliotref02_first.mono _ _
   | exact foliotref02_month.mono _ _ _
   | exact LeO.none _
   | refine LeO.ite ?_ ?_
   | refine LeO.bind ?_ (fun _ => ?_)
theorem foliotref02_OfDate.mono : ∀ a0 a1 k, LeO (foliotref02_OfDate.f k a0 a1) (foliotref02_OfDate.f (k + 1) a0 a1) := by
 intro a0 a1 k
 obtain ⟨ih0, ih1, ih2, ih3⟩ := foliotref02_OfDate.mono_l k
 unfold foliotref02_OfDate.f
 repeat' first
   | (with_reducible exact ih0 _ _ _)
   | (with_reducible exact ih1 _ _ _ _)
   | (with_reducible exact ih2 _ _ _ _ _ _ _ _)
   | (with_reducible exact ih3 _ _ _ _ _ _ _ _)
   | (with_reducible exact foliotref02_first.mono _ _)
   | (with_reducible exact foliotref02_month.mono _ _ _)
   | (with_reducible exact LeO.refl _)
   | (with_reducible exact LeO.none _)
   | (with_reducible refine LeO.ite ?_ ?_)
   | (with_reducible refine LeO.bind ?_ (fun _ => ?_))
   | exact ih0 _ _ _
   | exact ih1 _ _ _ _
   | exact ih2 _ _ _ _ _ _ _ _
   | exact ih3 _ _ _ _ _ _ _ _
   | exact foliotref02_first.mono _ _
   | exact foliotref02_month.mono _ _ _
   | exact LeO.none _
   | refine LeO.ite ?_ ?_
   | refine LeO.bind ?_ (fun _ => ?_)
set_option maxHeartbeats 8000000 in
set_option maxRecDepth 100000 in
theorem foliotref02_OfDate.calls (k : Nat) (a0_0 : Int) (a0_1 : Int) (r1 : Int) (r2 : Int) (r3 : Int) (r4 : Int) (r5 : Int) (r6 : Int) (r7 : Int) (r8 : Int) (w : World) (h : foliotref02_OfDate.f k a0_0 a0_1 = some (r1, r2, r3, r4, r5, r6, r7, r8)) :
  Calls Try.prog 15 #[.agg #[.int .i64 a0_0, .int .u64 a0_1]] w fun e w' => e = .returned (.tuple #[.agg #[.int .i64 r1, .int .i64 r2, .int .i64 r3, .int .i64 r4, .int .i64 r5, .int .i64 r6, .int .u32 r7], .int .i64 r8]) ∧ Below w.heap.size w w' := by
 have hu36 := Try.underlying36
 have hu33 := Try.underlying33
 have HB := Aside0.mk (Below.refl w.heap.size w)
 have H : (if a0_0 < (-20) then (foliotref02_OfDate.j0 k true a0_0 a0_1) else (foliotref02_OfDate.j0 k (decide (a0_0 > 20)) a0_0 a0_1)) = some (r1, r2, r3, r4, r5, r6, r7, r8) := h
 clear h
 have HC2 := Aside0.mk H
 clear H
 go_enter Try.func15, Try.ntmps15
 go_upto_region 1 with (first | ((with_reducible refine gate_dst (N := 1) rfl ?_); refine box_event ?hg (N := 1) ?hd (cs := #[.int .i64 a0_0, .int .u64 a0_1]) (t := 36) ?hr ?_; (case hd => rfl); (case hg => rfl); (case hr => first | (go_simp; done) | (go_simp; rfl)); intro gb183 hg w3 hbox hb; have n0_ := Aside0.mk (below_step (by repeat (first | (with_reducible first | exact HB.out | apply below_alloc | apply pw_below_drewN | apply below_drew1) | exact HB.out)) hb); have n1_ := Aside0.mk (hbox); have n2_ := Aside0.mk ((by rw [hg]; exact (below_size (by repeat (first | (with_reducible first | exact HB.out | apply below_alloc | apply pw_below_drewN | apply below_drew1) | exact HB.out))) : w.heap.size ≤ gb183)); have n3_ := Aside0.mk ((by rw [hg]; exact (below_size (by repeat (first | (with_reducible first | exact HB.out | apply below_alloc | apply pw_below_drewN | apply below_drew1) | exact HB.out))) : w.heap.size ≤ gb183)); clear HB; have HB := n0_; have BK183 := n1_; have GW183 := n2_; have GE183 := n3_; clear n0_ n1_ n2_ n3_; clear hb hbox hg) | ((with_reducible refine gate_dst (N := 2) rfl ?_); refine box_event ?hg (N := 2) ?hd (cs := #[.int .i64 0, .int .i64 0, .int .i64 0, .int .i64 0, .int .i64 0, .int .i64 0, .int .u32 0]) (t := 33) ?hr ?_; (case hd => rfl); (case hg => rfl); (case hr => first | (go_simp; done) | (go_simp; rfl)); intro gb184 hg w4 hbox hb; have n0_ := Aside0.mk (blk_below (g := gb183) (o := .cells #[.int .i64 a0_0, .int .u64 a0_1] 36 (0, 0)) (by (with_reducible repeat (first | refine blk_drewN ?_ _ | refine blk_drew ?_ | refine blk_alloc ?_ _)); exact BK183.out) hb); have n1_ := Aside0.mk (below_step (by repeat (first | (with_reducible first | exact HB.out | apply below_alloc | apply pw_below_drewN | apply below_drew1 | refine below_set ?_ GE183.out) | exact HB.out)) hb); have n2_ := Aside0.mk (hbox); have n3_ := Aside0.mk ((by rw [hg]; exact (below_size (by repeat (first | (with_reducible first | exact HB.out | apply below_alloc | apply pw_below_drewN | apply below_drew1 | refine below_set ?_ GE183.out) | exact HB.out))) : w.heap.size ≤ gb184)); have n4_ := Aside0.mk ((by rw [hg]; exact (below_size (by repeat (first | (with_reducible first | exact HB.out | apply below_alloc | apply pw_below_drewN | apply below_drew1 | refine below_set ?_ GE183.out) | exact HB.out))) : w.heap.size ≤ gb184)); have n5_ := Aside0.mk ((by rw [hg]; exact Nat.ne_of_lt (blk_lt (g := gb183) (o := .cells #[.int .i64 a0_0, .int .u64 a0_1] 36 (0, 0)) (by (with_reducible repeat (first | refine blk_drewN ?_ _ | refine blk_drew ?_ | refine blk_alloc ?_ _)); exact BK183.out)) : gb183 ≠ gb184)); have n6_ := Aside0.mk ((by rw [hg]; exact Nat.ne_of_gt (blk_lt (g := gb183) (o := .cells #[.int .i64 a0_0, .int .u64 a0_1] 36 (0, 0)) (by (with_reducible repeat (first | refine blk_drewN ?_ _ | refine blk_drew ?_ | refine blk_alloc ?_ _)); exact BK183.out)) : gb184 ≠ gb183)); clear BK183; clear HB; have BK183 := n0_; have HB := n1_; have BK184 := n2_; have GW184 := n3_; have GE184 := n4_; have NB183_184 := n5_; have NB184_183 := n6_; clear n0_ n1_ n2_ n3_ n4_ n5_ n6_; clear hb hbox hg))
 repeat (go_quiet (first | ((with_reducible refine gate_dst (N := 1) rfl ?_); refine box_event ?hg (N := 1) ?hd (cs := #[.int .i64 a0_0, .int .u64 a0_1]) (t := 36) ?hr ?_; (case hd => rfl); (case hg => rfl); (case hr => first | (go_simp; done) | (go_simp; rfl)); intro gb183 hg w3 hbox hb; have n0_ := Aside0.mk (below_step (by repeat (first | (with_reducible first | exact HB.out | apply below_alloc | apply pw_below_drewN | apply below_drew1) | exact HB.out)) hb); have n1_ := Aside0.mk (hbox); have n2_ := Aside0.mk ((by rw [hg]; exact (below_size (by repeat (first | (with_reducible first | exact HB.out | apply below_alloc | apply pw_below_drewN | apply below_drew1) | exact HB.out))) : w.heap.size ≤ gb183)); have n3_ := Aside0.mk ((by rw [hg]; exact (below_size (by repeat (first | (with_reducible first | exact HB.out | apply below_alloc | apply pw_below_drewN | apply below_drew1) | exact HB.out))) : w.heap.size ≤ gb183)); clear HB; have HB := n0_; have BK183 := n1_; have GW183 := n2_; have GE183 := n3_; clear n0_ n1_ n2_ n3_; clear hb hbox hg) | ((with_reducible refine gate_dst (N := 2) rfl ?_); refine box_event ?hg (N := 2) ?hd (cs := #[.int .i64 0, .int .i64 0, .int .i64 0, .int .i64 0, .int .i64 0, .int .i64 0, .int .u32 0]) (t := 33) ?hr ?_; (case hd => rfl); (case hg => rfl); (case hr => first | (go_simp; done) | (go_simp; rfl)); intro gb184 hg w4 hbox hb; have n0_ := Aside0.mk (blk_below (g := gb183) (o := .cells #[.int .i64 a0_0, .int .u64 a0_1] 36 (0, 0)) (by (with_reducible repeat (first | refine blk_drewN ?_ _ | refine blk_drew ?_ | refine blk_alloc ?_ _)); exact BK183.out) hb); have n1_ := Aside0.mk (below_step (by repeat (first | (with_reducible first | exact HB.out | apply below_alloc | apply pw_below_drewN | apply below_drew1 | refine below_set ?_ GE183.out) | exact HB.out)) hb); have n2_ := Aside0.mk (hbox); have n3_ := Aside0.mk ((by rw [hg]; exact (below_size (by repeat (first | (with_reducible first | exact HB.out | apply below_alloc | apply pw_below_drewN | apply below_drew1 | refine below_set ?_ GE183.out) | exact HB.out))) : w.heap.size ≤ gb184)); have n4_ := Aside0.mk ((by rw [hg]; exact (below_size (by repeat (first | (with_reducible first | exact HB.out | apply below_alloc | apply pw_below_drewN | apply below_drew1 | refine below_set ?_ GE183.out) | exact HB.out))) : w.heap.size ≤ gb184)); have n5_ := Aside0.mk ((by rw [hg]; exact Nat.ne_of_lt (blk_lt (g := gb183) (o := .cells #[.int .i64 a0_0, .int .u64 a0_1] 36 (0, 0)) (by (with_reducible repeat (first | refine blk_drewN ?_ _ | refine blk_drew ?_ | refine blk_alloc ?_ _)); exact BK183.out)) : gb183 ≠ gb184)); have n6_ := Aside0.mk ((by rw [hg]; exact Nat.ne_of_gt (blk_lt (g := gb183) (o := .cells #[.int .i64 a0_0, .int .u64 a0_1] 36 (0, 0)) (by (with_reducible repeat (first | refine blk_drewN ?_ _ | refine blk_drew ?_ | refine blk_alloc ?_ _)); exact BK183.out)) : gb184 ≠ gb183)); clear BK183; clear HB; have BK183 := n0_; have HB := n1_; have BK184 := n2_; have GW184 := n3_; have GE184 := n4_; have NB183_184 := n5_; have NB184_183 := n6_; clear n0_ n1_ n2_ n3_ n4_ n5_ n6_; clear hb hbox hg)); go_upto_region 1 with (first | ((with_reducible refine gate_dst (N := 1) rfl ?_); refine box_event ?hg (N := 1) ?hd (cs := #[.int .i64 a0_0, .int .u64 a0_1]) (t := 36) ?hr ?_; (case hd => rfl); (case hg => rfl); (case hr => first | (go_simp; done) | (go_simp; rfl)); intro gb183 hg w3 hbox hb; have n0_ := Aside0.mk (below_step (by repeat (first | (with_reducible first | exact HB.out | apply below_alloc | apply pw_below_drewN | apply below_drew1) | exact HB.out)) hb); have n1_ := Aside0.mk (hbox); have n2_ := Aside0.mk ((by rw [hg]; exact (below_size (by repeat (first | (with_reducible first | exact HB.out | apply below_alloc | apply pw_below_drewN | apply below_drew1) | exact HB.out))) : w.heap.size ≤ gb183)); have n3_ := Aside0.mk ((by rw [hg]; exact (below_size (by repeat (first | (with_reducible first | exact HB.out | apply below_alloc | apply pw_below_drewN | apply below_drew1) | exact HB.out))) : w.heap.size ≤ gb183)); clear HB; have HB := n0_; have BK183 := n1_; have GW183 := n2_; have GE183 := n3_; clear n0_ n1_ n2_ n3_; clear hb hbox hg) | ((with_reducible refine gate_dst (N := 2) rfl ?_); refine box_event ?hg (N := 2) ?hd (cs := #[.int .i64 0, .int .i64 0, .int .i64 0, .int .i64 0, .int .i64 0, .int .i64 0, .int .u32 0]) (t := 33) ?hr ?_; (case hd => rfl); (case hg => rfl); (case hr => first | (go_simp; done) | (go_simp; rfl)); intro gb184 hg w4 hbox hb; have n0_ := Aside0.mk (blk_below (g := gb183) (o := .cells #[.int .i64 a0_0, .int .u64 a0_1] 36 (0, 0)) (by (with_reducible repeat (first | refine blk_drewN ?_ _ | refine blk_drew ?_ | refine blk_alloc ?_ _)); exact BK183.out) hb); have n1_ := Aside0.mk (below_step (by repeat (first | (with_reducible first | exact HB.out | apply below_alloc | apply pw_below_drewN | apply below_drew1 | refine below_set ?_ GE183.out) | exact HB.out)) hb); have n2_ := Aside0.mk (hbox); have n3_ := Aside0.mk ((by rw [hg]; exact (below_size (by repeat (first | (with_reducible first | exact HB.out | apply below_alloc | apply pw_below_drewN | apply below_drew1 | refine below_set ?_ GE183.out) | exact HB.out))) : w.heap.size ≤ gb184)); have n4_ := Aside0.mk ((by rw [hg]; exact (below_size (by repeat (first | (with_reducible first | exact HB.out | apply below_alloc | apply pw_below_drewN | apply below_drew1 | refine below_set ?_ GE183.out) | exact HB.out))) : w.heap.size ≤ gb184)); have n5_ := Aside0.mk ((by rw [hg]; exact Nat.ne_of_lt (blk_lt (g := gb183) (o := .cells #[.int .i64 a0_0, .int .u64 a0_1] 36 (0, 0)) (by (with_reducible repeat (first | refine blk_drewN ?_ _ | refine blk_drew ?_ | refine blk_alloc ?_ _)); exact BK183.out)) : gb183 ≠ gb184)); have n6_ := Aside0.mk ((by rw [hg]; exact Nat.ne_of_gt (blk_lt (g := gb183) (o := .cells #[.int .i64 a0_0, .int .u64 a0_1] 36 (0, 0)) (by (with_reducible repeat (first | refine blk_drewN ?_ _ | refine blk_drew ?_ | refine blk_alloc ?_ _)); exact BK183.out)) : gb184 ≠ gb183)); clear BK183; clear HB; have BK183 := n0_; have HB := n1_; have BK184 := n2_; have GW184 := n3_; have GE184 := n4_; have NB183_184 := n5_; have NB184_183 := n6_; clear n0_ n1_ n2_ n3_ n4_ n5_ n6_; clear hb hbox hg)))
 (try simp only [Act.put, List.setIfInBounds_toArray, List.set_cons_zero, List.set_cons_succ])
 go_cut [14] (fun v14 wc => ∃ (kq : Nat) (x14_1 : Bool), v14 = .bool x14_1 ∧ Aside0 (foliotref02_OfDate.j0 kq x14_1 a0_0 a0_1 = some (r1, r2, r3, r4, r5, r6, r7, r8)) ∧ Aside0 (kq ≤ k) ∧ Aside0 (wc.heap[gb183]? = some (.cells #[.int .i64 a0_0, .int .u64 a0_1] 36 (0, 0))) ∧ Aside0 (wc.heap[gb184]? = some (.cells #[.int .i64 0, .int .i64 0, .int .i64 0, .int .i64 0, .int .i64 0, .int .i64 0, .int .u32 0] 33 (0, 0))) ∧ Aside0 (Below w.heap.size w wc))
 case first =>
  have H := HC2.out
  clear HC2
  by_cases c5 : a0_0 < (-20)
  ·rw [if_pos c5] at H
   have c5b0 : decide (a0_0 < (-20)) = true := decide_eq_true c5
   clear c5
   (first | rw [c5b0] | (simp only [i64_w, i32_w]; rw [c5b0]) | skip)
   have H' := Aside0.mk H
   clear H
   have hnb6 := NB183_184.out
   have hnc6 := NB184_183.out
   have hcz7_0 : w4.cell? ⟨gb183, 0, none⟩ = some (.int .i64 a0_0) := (blk_cell BK183.out 0).trans rfl
   have hcz7_1 : w4.cell? ⟨gb183, 1, none⟩ = some (.int .u64 a0_1) := (blk_cell BK183.out 1).trans rfl
   have hfz7_0 := blk_frozen BK183.out 0
   have hfz7_1 := blk_frozen BK183.out 1
   go_wp2
   repeat (go_quiet (fail); try go_wp2)
   go_meet
   case rel => exact ⟨_, (true), (by first | rfl | (simp; done) | (simp [*]; done)), H', ⟨by first | omega | exact Nat.le_refl _⟩, ⟨by (with_reducible repeat (first | refine blk_drewN ?_ _ | refine blk_drew ?_ | refine blk_alloc ?_ _)); exact BK183.out⟩, ⟨by (with_reducible repeat (first | refine blk_drewN ?_ _ | refine blk_drew ?_ | refine blk_alloc ?_ _)); exact BK184.out⟩, ⟨by repeat (first | (with_reducible first | exact HB.out | apply below_alloc | apply pw_below_drewN | apply below_drew1 | refine below_set ?_ GE183.out | refine below_set ?_ GE184.out) | exact HB.out)⟩⟩
  ·rw [if_neg c5] at H
   have c5b0 : decide (a0_0 < (-20)) = false := decide_eq_false c5
   clear c5
   (first | rw [c5b0] | (simp only [i64_w, i32_w]; rw [c5b0]) | skip)
   have H' := Aside0.mk H
   clear H
   have hnb8 := NB183_184.out
   have hnc8 := NB184_183.out
   have hcz9_0 : w4.cell? ⟨gb183, 0, none⟩ = some (.int .i64 a0_0) := (blk_cell BK183.out 0).trans rfl
   have hcz9_1 : w4.cell? ⟨gb183, 1, none⟩ = some (.int .u64 a0_1) := (blk_cell BK183.out 1).trans rfl
   have hfz9_0 := blk_frozen BK183.out 0
   have hfz9_1 := blk_frozen BK183.out 1
   go_wp2
   repeat (go_quiet (fail); try go_wp2)
   go_meet
   case rel => exact ⟨_, (decide (a0_0 > 20)), (by first | rfl | (simp; done) | (simp [*]; done)), H', ⟨by first | omega | exact Nat.le_refl _⟩, ⟨by (with_reducible repeat (first | refine blk_drewN ?_ _ | refine blk_drew ?_ | refine blk_alloc ?_ _)); exact BK183.out⟩, ⟨by (with_reducible repeat (first | refine blk_drewN ?_ _ | refine blk_drew ?_ | refine blk_alloc ?_ _)); exact BK184.out⟩, ⟨by repeat (first | (with_reducible first | exact HB.out | apply below_alloc | apply pw_below_drewN | apply below_drew1 | refine below_set ?_ GE183.out | refine below_set ?_ GE184.out) | exact HB.out)⟩⟩
 case rest =>
  clear HC2
  try clear c1
  try clear p2
  try clear c5
  try clear c5b0
  try clear c6
  try clear c8
  try clear hcz7_0
  try clear hcz7_1
  try clear hcz9_0
  try clear hcz9_1
  try clear hfz7_0
  try clear hfz7_1
  try clear hfz9_0
  try clear hfz9_1
  obtain ⟨kq, x14_1, rfl, HA, HJ1, BK183, BK184, HB⟩ := hcut
  cases kq with
  | zero => exact absurd HA.out (by simp [foliotref02_OfDate.j0])
  | succ kj1 =>
   have H := HA.out
   clear HA
   simp only [foliotref02_OfDate.j0] at H
   by_cases c10 : x14_1 = true
   ·subst c10
    have H1 : (some (0, 0, 0, 0, 0, 0, 0, 20)) = some (r1, r2, r3, r4, r5, r6, r7, r8) := by rw [if_pos rfl] at H; exact H
    clear H
    have H := H1
    clear H1
    simp only [Option.some.injEq, Prod.mk.injEq] at H
    obtain ⟨rfl, rfl, rfl, rfl, rfl, rfl, rfl, rfl⟩ := H
    have hnb11 := NB184_183.out
    have hnc11 := NB183_184.out
    have hcz12_0 : wc.cell? ⟨gb184, 0, none⟩ = some (.int .i64 0) := (blk_cell BK184.out 0).trans rfl
    have hcz12_1 : wc.cell? ⟨gb184, 1, none⟩ = some (.int .i64 0) := (blk_cell BK184.out 1).trans rfl
    have hcz12_2 : wc.cell? ⟨gb184, 2, none⟩ = some (.int .i64 0) := (blk_cell BK184.out 2).trans rfl
    have hcz12_3 : wc.cell? ⟨gb184, 3, none⟩ = some (.int .i64 0) := (blk_cell BK184.out 3).trans rfl
    have hcz12_4 : wc.cell? ⟨gb184, 4, none⟩ = some (.int .i64 0) := (blk_cell BK184.out 4).trans rfl
    have hcz12_5 : wc.cell? ⟨gb184, 5, none⟩ = some (.int .i64 0) := (blk_cell BK184.out 5).trans rfl
    have hcz12_6 : wc.cell? ⟨gb184, 6, none⟩ = some (.int .u32 0) := (blk_cell BK184.out 6).trans rfl
    have hfz12_0 := blk_frozen BK184.out 0
    have hfz12_1 := blk_frozen BK184.out 1
    have hfz12_2 := blk_frozen BK184.out 2
    have hfz12_3 := blk_frozen BK184.out 3
    have hfz12_4 := blk_frozen BK184.out 4
    have hfz12_5 := blk_frozen BK184.out 5
    have hfz12_6 := blk_frozen BK184.out 6
    go_wp2
    repeat (go_quiet (fail); try go_wp2)
    refine bodyPost_ret (results_ct rfl _ _ gb184 33 #[.int .i64 0, .int .i64 0, .int .i64 0, .int .i64 0, .int .i64 0, .int .i64 0, .int .u32 0] (0, 0) _ rfl (by (with_reducible repeat (first | refine blk_drewN ?_ _ | refine blk_drew ?_ | refine blk_alloc ?_ _)); refine blk_put (cs := #[.int .i64 0, .int .i64 0, .int .i64 0, .int .i64 0, .int .i64 0, .int .i64 0, .int .u32 0]) ?_ 6 _ rfl; (with_reducible repeat (first | refine blk_drewN ?_ _ | refine blk_drew ?_ | refine blk_alloc ?_ _)); refine blk_put (cs := #[.int .i64 0, .int .i64 0, .int .i64 0, .int .i64 0, .int .i64 0, .int .i64 0, .int .u32 0]) ?_ 5 _ rfl; (with_reducible repeat (first | refine blk_drewN ?_ _ | refine blk_drew ?_ | refine blk_alloc ?_ _)); refine blk_put (cs := #[.int .i64 0, .int .i64 0, .int .i64 0, .int .i64 0, .int .i64 0, .int .i64 0, .int .u32 0]) ?_ 4 _ rfl; (with_reducible repeat (first | refine blk_drewN ?_ _ | refine blk_drew ?_ | refine blk_alloc ?_ _)); refine blk_put (cs := #[.int .i64 0, .int .i64 0, .int .i64 0, .int .i64 0, .int .i64 0, .int .i64 0, .int .u32 0]) ?_ 3 _ rfl; (with_reducible repeat (first | refine blk_drewN ?_ _ | refine blk_drew ?_ | refine blk_alloc ?_ _)); refine blk_put (cs := #[.int .i64 0, .int .i64 0, .int .i64 0, .int .i64 0, .int .i64 0, .int .i64 0, .int .u32 0]) ?_ 2 _ rfl; (with_reducible repeat (first | refine blk_drewN ?_ _ | refine blk_drew ?_ | refine blk_alloc ?_ _)); refine blk_put (cs := #[.int .i64 0, .int .i64 0, .int .i64 0, .int .i64 0, .int .i64 0, .int .i64 0, .int .u32 0]) ?_ 1 _ rfl; (with_reducible repeat (first | refine blk_drewN ?_ _ | refine blk_drew ?_ | refine blk_alloc ?_ _)); refine blk_put (cs := #[.int .i64 0, .int .i64 0, .int .i64 0, .int .i64 0, .int .i64 0, .int .i64 0, .int .u32 0]) ?_ 0 _ rfl; (with_reducible repeat (first | refine blk_drewN ?_ _ | refine blk_drew ?_ | refine blk_alloc ?_ _)); exact BK184.out) Try.underlying33 rfl (by kernel_rfl)) rfl ?_
    exact ⟨by first | rfl | (simp [errW_none, errW_some] <;> rfl) | (simp [*, errW_none, errW_some] <;> rfl), by repeat (first | (with_reducible first | exact HB.out | apply below_alloc | apply pw_below_drewN | apply below_drew1 | refine below_set ?_ GE183.out | refine below_set ?_ GE184.out) | exact HB.out)⟩
   ·replace c10 := Bool.eq_false_iff.mpr c10
    subst c10
    have H1 : ((foliotref02_first.f kj1 1900).bind fun t185 => (if (wrap64 ((wrap64 ((wrap64 (a0_0 * 4294967296)) + (wrap64 (a0_1 / 4294967296)))) + (wrap64 (t185 * 86400)))) < 0 then (foliotref02_OfDate.j1 kj1 (wrap64 ((wrap64 ((wrap64 (a0_0 * 4294967296)) + (wrap64 (a0_1 / 4294967296)))) + (wrap64 (t185 * 86400)))) true a0_0 a0_1) else ((foliotref02_first.f kj1 2101).bind fun t186 => (foliotref02_OfDate.j1 kj1 (wrap64 ((wrap64 ((wrap64 (a0_0 * 4294967296)) + (wrap64 (a0_1 / 4294967296)))) + (wrap64 (t185 * 86400)))) (decide ((wrap64 ((wrap64 ((wrap64 (a0_0 * 4294967296)) + (wrap64 (a0_1 / 4294967296)))) + (wrap64 (t185 * 86400)))) ≥ (wrap64 (t186 * 86400)))) a0_0 a0_1)))) = some (r1, r2, r3, r4, r5, r6, r7, r8) := by rw [if_neg (show ¬ (false = true) by decide)] at H; exact H
    clear H
    have H := H1
    clear H1
    replace H := Option.bind_eq_some_iff.mp H
    obtain ⟨t185, A130, H⟩ := H
    replace H : (if (wrap64 ((wrap64 ((wrap64 (a0_0 * 4294967296)) + (wrap64 (a0_1 / 4294967296)))) + (wrap64 (t185 * 86400)))) < 0 then (foliotref02_OfDate.j1 kj1 (wrap64 ((wrap64 ((wrap64 (a0_0 * 4294967296)) + (wrap64 (a0_1 / 4294967296)))) + (wrap64 (t185 * 86400)))) true a0_0 a0_1) else ((foliotref02_first.f kj1 2101).bind fun t186 => (foliotref02_OfDate.j1 kj1 (wrap64 ((wrap64 ((wrap64 (a0_0 * 4294967296)) + (wrap64 (a0_1 / 4294967296)))) + (wrap64 (t185 * 86400)))) (decide ((wrap64 ((wrap64 ((wrap64 (a0_0 * 4294967296)) + (wrap64 (a0_1 / 4294967296)))) + (wrap64 (t185 * 86400)))) ≥ (wrap64 (t186 * 86400)))) a0_0 a0_1))) = some (r1, r2, r3, r4, r5, r6, r7, r8) := H
    have A13 := Aside0.mk A130
    clear A130
    have HC14 := Aside0.mk H
    clear H
    have hnb15 := NB183_184.out
    have hnc15 := NB184_183.out
    have hcz16_0 : wc.cell? ⟨gb183, 0, none⟩ = some (.int .i64 a0_0) := (blk_cell BK183.out 0).trans rfl
    have hcz16_1 : wc.cell? ⟨gb183, 1, none⟩ = some (.int .u64 a0_1) := (blk_cell BK183.out 1).trans rfl
    have hfz16_0 := blk_frozen BK183.out 0
    have hfz16_1 := blk_frozen BK183.out 1
    go_upto_region 4 with (first | (go_at_call 35; (with_reducible refine (foliotref02_first.calls kj1 1900 t185 _ A13.out).mono ?_); rintro e w' ⟨rfl, ⟨nd, rfl⟩⟩; (try first | exact ⟨rfl, _, World.drewN_drewN _ _ _⟩ | exact ⟨rfl, _, Eq.trans (World.drewN_drewN _ _ _) (congrArg (World.drewN _) (Nat.add_assoc _ _ _))⟩)))
    repeat (go_quiet (first | (go_at_call 35; (with_reducible refine (foliotref02_first.calls kj1 1900 t185 _ A13.out).mono ?_); rintro e w' ⟨rfl, ⟨nd, rfl⟩⟩; (try first | exact ⟨rfl, _, World.drewN_drewN _ _ _⟩ | exact ⟨rfl, _, Eq.trans (World.drewN_drewN _ _ _) (congrArg (World.drewN _) (Nat.add_assoc _ _ _))⟩))); go_upto_region 4 with (first | (go_at_call 35; (with_reducible refine (foliotref02_first.calls kj1 1900 t185 _ A13.out).mono ?_); rintro e w' ⟨rfl, ⟨nd, rfl⟩⟩; (try first | exact ⟨rfl, _, World.drewN_drewN _ _ _⟩ | exact ⟨rfl, _, Eq.trans (World.drewN_drewN _ _ _) (congrArg (World.drewN _) (Nat.add_assoc _ _ _))⟩))))
    (try simp only [Act.put, List.setIfInBounds_toArray, List.set_cons_zero, List.set_cons_succ])
    go_cut [34] (fun v34 wc => ∃ (kq : Nat) (x34_13 : Bool), v34 = .bool x34_13 ∧ Aside0 (foliotref02_OfDate.j1 kq (wrap64 ((wrap64 ((wrap64 (a0_0 * 4294967296)) + (wrap64 (a0_1 / 4294967296)))) + (wrap64 (t185 * 86400)))) x34_13 a0_0 a0_1 = some (r1, r2, r3, r4, r5, r6, r7, r8)) ∧ Aside0 (kq ≤ kj1) ∧ Aside0 (wc.heap[gb183]? = some (.cells #[.int .i64 a0_0, .int .u64 a0_1] 36 (0, 0))) ∧ Aside0 (wc.heap[gb184]? = some (.cells #[.int .i64 0, .int .i64 0, .int .i64 0, .int .i64 0, .int .i64 0, .int .i64 0, .int .u32 0] 33 (0, 0))) ∧ Aside0 (Below w.heap.size w wc))
    case first =>
     have H := HC14.out
     clear HC14
     by_cases c17 : (wrap64 ((wrap64 ((wrap64 (a0_0 * 4294967296)) + (wrap64 (a0_1 / 4294967296)))) + (wrap64 (t185 * 86400)))) < 0
     ·rw [if_pos c17] at H
      have c17b0 : decide ((wrap64 ((wrap64 ((wrap64 (a0_0 * 4294967296)) + (wrap64 (a0_1 / 4294967296)))) + (wrap64 (t185 * 86400)))) < 0) = true := decide_eq_true c17
      clear c17
      (first | rw [c17b0] | (simp only [i64_w, i32_w]; rw [c17b0]) | skip)
      have H' := Aside0.mk H
      clear H
      go_wp2
      repeat (go_quiet (fail); try go_wp2)
      go_meet
      case rel => exact ⟨_, (true), (by first | rfl | (simp; done) | (simp [*]; done)), H', ⟨by have := HJ1.out; first | omega | exact Nat.le_refl _⟩, ⟨by (with_reducible repeat (first | refine blk_drewN ?_ _ | refine blk_drew ?_ | refine blk_alloc ?_ _)); exact BK183.out⟩, ⟨by (with_reducible repeat (first | refine blk_drewN ?_ _ | refine blk_drew ?_ | refine blk_alloc ?_ _)); exact BK184.out⟩, ⟨by repeat (first | (with_reducible first | exact HB.out | apply below_alloc | apply pw_below_drewN | apply below_drew1 | refine below_set ?_ GE183.out | refine below_set ?_ GE184.out) | exact HB.out)⟩⟩
     ·rw [if_neg c17] at H
      have c17b0 : decide ((wrap64 ((wrap64 ((wrap64 (a0_0 * 4294967296)) + (wrap64 (a0_1 / 4294967296)))) + (wrap64 (t185 * 86400)))) < 0) = false := decide_eq_false c17
      clear c17
      (first | rw [c17b0] | (simp only [i64_w, i32_w]; rw [c17b0]) | skip)
      replace H := Option.bind_eq_some_iff.mp H
      obtain ⟨t186, A180, H⟩ := H
      replace H : (foliotref02_OfDate.j1 kj1 (wrap64 ((wrap64 ((wrap64 (a0_0 * 4294967296)) + (wrap64 (a0_1 / 4294967296)))) + (wrap64 (t185 * 86400)))) (decide ((wrap64 ((wrap64 ((wrap64 (a0_0 * 4294967296)) + (wrap64 (a0_1 / 4294967296)))) + (wrap64 (t185 * 86400)))) ≥ (wrap64 (t186 * 86400)))) a0_0 a0_1) = some (r1, r2, r3, r4, r5, r6, r7, r8) := H
      have A18 := Aside0.mk A180
      clear A180
      have H' := Aside0.mk H
      clear H
      go_wp2_with (first | (go_at_call 35; (with_reducible refine (foliotref02_first.calls kj1 2101 t186 _ A18.out).mono ?_); rintro e w' ⟨rfl, ⟨nd, rfl⟩⟩; (try first | exact ⟨rfl, _, World.drewN_drewN _ _ _⟩ | exact ⟨rfl, _, Eq.trans (World.drewN_drewN _ _ _) (congrArg (World.drewN _) (Nat.add_assoc _ _ _))⟩)))
      repeat (go_quiet (first | (go_at_call 35; (with_reducible refine (foliotref02_first.calls kj1 2101 t186 _ A18.out).mono ?_); rintro e w' ⟨rfl, ⟨nd, rfl⟩⟩; (try first | exact ⟨rfl, _, World.drewN_drewN _ _ _⟩ | exact ⟨rfl, _, Eq.trans (World.drewN_drewN _ _ _) (congrArg (World.drewN _) (Nat.add_assoc _ _ _))⟩))); try go_wp2_with (first | (go_at_call 35; (with_reducible refine (foliotref02_first.calls kj1 2101 t186 _ A18.out).mono ?_); rintro e w' ⟨rfl, ⟨nd, rfl⟩⟩; (try first | exact ⟨rfl, _, World.drewN_drewN _ _ _⟩ | exact ⟨rfl, _, Eq.trans (World.drewN_drewN _ _ _) (congrArg (World.drewN _) (Nat.add_assoc _ _ _))⟩))))
      go_meet
      case rel => exact ⟨_, (decide ((wrap64 ((wrap64 ((wrap64 (a0_0 * 4294967296)) + (wrap64 (a0_1 / 4294967296)))) + (wrap64 (t185 * 86400)))) ≥ (wrap64 (t186 * 86400)))), (by first | rfl | (simp; done) | (simp [*]; done)), H', ⟨by have := HJ1.out; first | omega | exact Nat.le_refl _⟩, ⟨by (with_reducible repeat (first | refine blk_drewN ?_ _ | refine blk_drew ?_ | refine blk_alloc ?_ _)); exact BK183.out⟩, ⟨by (with_reducible repeat (first | refine blk_drewN ?_ _ | refine blk_drew ?_ | refine blk_alloc ?_ _)); exact BK184.out⟩, ⟨by repeat (first | (with_reducible first | exact HB.out | apply below_alloc | apply pw_below_drewN | apply below_drew1 | refine below_set ?_ GE183.out | refine below_set ?_ GE184.out) | exact HB.out)⟩⟩
    case rest =>
     clear HC14
     try clear c1
     try clear p2
     try clear c5
     try clear c5b0
     try clear c6
     try clear p6
     try clear c8
     try clear c10
     try clear c11
     try clear c15
     try clear c17
     try clear c17b0
     try clear hcz12_0
     try clear hcz12_1
     try clear hcz12_2
     try clear hcz12_3
     try clear hcz12_4
     try clear hcz12_5
     try clear hcz12_6
     try clear hcz16_0
     try clear hcz16_1
     try clear hcz7_0
     try clear hcz7_1
     try clear hcz9_0
     try clear hcz9_1
     try clear hfz12_0
     try clear hfz12_1
     try clear hfz12_2
     try clear hfz12_3
     try clear hfz12_4
     try clear hfz12_5
     try clear hfz12_6
     try clear hfz16_0
     try clear hfz16_1
     try clear hfz7_0
     try clear hfz7_1
     try clear hfz9_0
     try clear hfz9_1
     try clear p2
     obtain ⟨kq, x34_13, rfl, HA, HJ13, BK183, BK184, HB⟩ := hcut
     cases kq with
     | zero => exact absurd HA.out (by simp [foliotref02_OfDate.j1])
     | succ kj13 =>
      have H := HA.out
      clear HA
      simp only [foliotref02_OfDate.j1] at H
      by_cases c19 : x34_13 = true
      ·subst c19
       have H1 : (some (0, 0, 0, 0, 0, 0, 0, 20)) = some (r1, r2, r3, r4, r5, r6, r7, r8) := by rw [if_pos rfl] at H; exact H
       clear H
       have H := H1
       clear H1
       simp only [Option.some.injEq, Prod.mk.injEq] at H
       obtain ⟨rfl, rfl, rfl, rfl, rfl, rfl, rfl, rfl⟩ := H
       have hnb20 := NB184_183.out
       have hnc20 := NB183_184.out
       have hcz21_0 : wc.cell? ⟨gb184, 0, none⟩ = some (.int .i64 0) := (blk_cell BK184.out 0).trans rfl
       have hcz21_1 : wc.cell? ⟨gb184, 1, none⟩ = some (.int .i64 0) := (blk_cell BK184.out 1).trans rfl
       have hcz21_2 : wc.cell? ⟨gb184, 2, none⟩ = some (.int .i64 0) := (blk_cell BK184.out 2).trans rfl
       have hcz21_3 : wc.cell? ⟨gb184, 3, none⟩ = some (.int .i64 0) := (blk_cell BK184.out 3).trans rfl
       have hcz21_4 : wc.cell? ⟨gb184, 4, none⟩ = some (.int .i64 0) := (blk_cell BK184.out 4).trans rfl
       have hcz21_5 : wc.cell? ⟨gb184, 5, none⟩ = some (.int .i64 0) := (blk_cell BK184.out 5).trans rfl
       have hcz21_6 : wc.cell? ⟨gb184, 6, none⟩ = some (.int .u32 0) := (blk_cell BK184.out 6).trans rfl
       have hfz21_0 := blk_frozen BK184.out 0
       have hfz21_1 := blk_frozen BK184.out 1
       have hfz21_2 := blk_frozen BK184.out 2
       have hfz21_3 := blk_frozen BK184.out 3
       have hfz21_4 := blk_frozen BK184.out 4
       have hfz21_5 := blk_frozen BK184.out 5
       have hfz21_6 := blk_frozen BK184.out 6
       go_wp2
       repeat (go_quiet (fail); try go_wp2)
       refine bodyPost_ret (results_ct rfl _ _ gb184 33 #[.int .i64 0, .int .i64 0, .int .i64 0, .int .i64 0, .int .i64 0, .int .i64 0, .int .u32 0] (0, 0) _ rfl (by (with_reducible repeat (first | refine blk_drewN ?_ _ | refine blk_drew ?_ | refine blk_alloc ?_ _)); refine blk_put (cs := #[.int .i64 0, .int .i64 0, .int .i64 0, .int .i64 0, .int .i64 0, .int .i64 0, .int .u32 0]) ?_ 6 _ rfl; (with_reducible repeat (first | refine blk_drewN ?_ _ | refine blk_drew ?_ | refine blk_alloc ?_ _)); refine blk_put (cs := #[.int .i64 0, .int .i64 0, .int .i64 0, .int .i64 0, .int .i64 0, .int .i64 0, .int .u32 0]) ?_ 5 _ rfl; (with_reducible repeat (first | refine blk_drewN ?_ _ | refine blk_drew ?_ | refine blk_alloc ?_ _)); refine blk_put (cs := #[.int .i64 0, .int .i64 0, .int .i64 0, .int .i64 0, .int .i64 0, .int .i64 0, .int .u32 0]) ?_ 4 _ rfl; (with_reducible repeat (first | refine blk_drewN ?_ _ | refine blk_drew ?_ | refine blk_alloc ?_ _)); refine blk_put (cs := #[.int .i64 0, .int .i64 0, .int .i64 0, .int .i64 0, .int .i64 0, .int .i64 0, .int .u32 0]) ?_ 3 _ rfl; (with_reducible repeat (first | refine blk_drewN ?_ _ | refine blk_drew ?_ | refine blk_alloc ?_ _)); refine blk_put (cs := #[.int .i64 0, .int .i64 0, .int .i64 0, .int .i64 0, .int .i64 0, .int .i64 0, .int .u32 0]) ?_ 2 _ rfl; (with_reducible repeat (first | refine blk_drewN ?_ _ | refine blk_drew ?_ | refine blk_alloc ?_ _)); refine blk_put (cs := #[.int .i64 0, .int .i64 0, .int .i64 0, .int .i64 0, .int .i64 0, .int .i64 0, .int .u32 0]) ?_ 1 _ rfl; (with_reducible repeat (first | refine blk_drewN ?_ _ | refine blk_drew ?_ | refine blk_alloc ?_ _)); refine blk_put (cs := #[.int .i64 0, .int .i64 0, .int .i64 0, .int .i64 0, .int .i64 0, .int .i64 0, .int .u32 0]) ?_ 0 _ rfl; (with_reducible repeat (first | refine blk_drewN ?_ _ | refine blk_drew ?_ | refine blk_alloc ?_ _)); exact BK184.out) Try.underlying33 rfl (by kernel_rfl)) rfl ?_
       exact ⟨by first | rfl | (simp [errW_none, errW_some] <;> rfl) | (simp [*, errW_none, errW_some] <;> rfl), by repeat (first | (with_reducible first | exact HB.out | apply below_alloc | apply pw_below_drewN | apply below_drew1 | refine below_set ?_ GE183.out | refine below_set ?_ GE184.out) | exact HB.out)⟩
      ·replace c19 := Bool.eq_false_iff.mpr c19
       subst c19
       have H1 : (foliotref02_OfDate.l0 kj13 (wrap64 (Int.tdiv (wrap64 ((wrap64 ((wrap64 (a0_0 * 4294967296)) + (wrap64 (a0_1 / 4294967296)))) + (wrap64 (t185 * 86400)))) 86400)) 1 1 0 (Int.tmod (wrap64 (Int.tdiv (wrap64 ((wrap64 ((wrap64 (a0_0 * 4294967296)) + (wrap64 (a0_1 / 4294967296)))) + (wrap64 (t185 * 86400)))) 3600)) 24) (Int.tmod (wrap64 (Int.tdiv (wrap64 ((wrap64 ((wrap64 (a0_0 * 4294967296)) + (wrap64 (a0_1 / 4294967296)))) + (wrap64 (t185 * 86400)))) 60)) 60) (Int.tmod (wrap64 ((wrap64 ((wrap64 (a0_0 * 4294967296)) + (wrap64 (a0_1 / 4294967296)))) + (wrap64 (t185 * 86400)))) 60) ((a0_1) % 4294967296)) = some (r1, r2, r3, r4, r5, r6, r7, r8) := by rw [if_neg (show ¬ (false = true) by decide)] at H; exact H
       clear H
       have H := H1
       clear H1
       have H' := Aside0.mk H
       clear H
       have hnb22 := NB183_184.out
       have hnc22 := NB184_183.out
       have hcz23_0 : wc.cell? ⟨gb183, 0, none⟩ = some (.int .i64 a0_0) := (blk_cell BK183.out 0).trans rfl
       have hcz23_1 : wc.cell? ⟨gb183, 1, none⟩ = some (.int .u64 a0_1) := (blk_cell BK183.out 1).trans rfl
       have hfz23_0 := blk_frozen BK183.out 0
       have hfz23_1 := blk_frozen BK183.out 1
       go_wp2_with (first | ((with_reducible refine gate_dst (N := 5) rfl ?_); refine box_event ?hg (N := 5) ?hd (cs := #[.int .i64 0, .int .i64 0, .int .i64 0, .int .i64 0, .int .i64 0, .int .i64 0, .int .u32 0]) (t := 33) ?hr ?_; (case hd => rfl); (case hg => rfl); (case hr => first | (go_simp; done) | (go_simp; rfl)); intro gb187 hg w24 hbox hb; have n0_ := Aside0.mk (blk_below (g := gb183) (o := .cells #[.int .i64 a0_0, .int .u64 a0_1] 36 (0, 0)) (by (with_reducible repeat (first | refine blk_drewN ?_ _ | refine blk_drew ?_ | refine blk_alloc ?_ _)); exact BK183.out) hb); have n1_ := Aside0.mk (blk_below (g := gb184) (o := .cells #[.int .i64 0, .int .i64 0, .int .i64 0, .int .i64 0, .int .i64 0, .int .i64 0, .int .u32 0] 33 (0, 0)) (by (with_reducible repeat (first | refine blk_drewN ?_ _ | refine blk_drew ?_ | refine blk_alloc ?_ _)); exact BK184.out) hb); have n2_ := Aside0.mk (below_step (by repeat (first | (with_reducible first | exact HB.out | apply below_alloc | apply pw_below_drewN | apply below_drew1 | refine below_set ?_ GE183.out | refine below_set ?_ GE184.out) | exact HB.out)) hb); have n3_ := Aside0.mk (hbox); have n4_ := Aside0.mk ((by rw [hg]; exact (below_size (by repeat (first | (with_reducible first | exact HB.out | apply below_alloc | apply pw_below_drewN | apply below_drew1 | refine below_set ?_ GE183.out | refine below_set ?_ GE184.out) | exact HB.out))) : w.heap.size ≤ gb187)); have n5_ := Aside0.mk ((by rw [hg]; exact (below_size (by repeat (first | (with_reducible first | exact HB.out | apply below_alloc | apply pw_below_drewN | apply below_drew1 | refine below_set ?_ GE183.out | refine below_set ?_ GE184.out) | exact HB.out))) : w.heap.size ≤ gb187)); have n6_ := Aside0.mk ((by rw [hg]; exact Nat.ne_of_lt (blk_lt (g := gb183) (o := .cells #[.int .i64 a0_0, .int .u64 a0_1] 36 (0, 0)) (by (with_reducible repeat (first | refine blk_drewN ?_ _ | refine blk_drew ?_ | refine blk_alloc ?_ _)); exact BK183.out)) : gb183 ≠ gb187)); have n7_ := Aside0.mk ((by rw [hg]; exact Nat.ne_of_gt (blk_lt (g := gb183) (o := .cells #[.int .i64 a0_0, .int .u64 a0_1] 36 (0, 0)) (by (with_reducible repeat (first | refine blk_drewN ?_ _ | refine blk_drew ?_ | refine blk_alloc ?_ _)); exact BK183.out)) : gb187 ≠ gb183)); have n8_ := Aside0.mk ((by rw [hg]; exact Nat.ne_of_lt (blk_lt (g := gb184) (o := .cells #[.int .i64 0, .int .i64 0, .int .i64 0, .int .i64 0, .int .i64 0, .int .i64 0, .int .u32 0] 33 (0, 0)) (by (with_reducible repeat (first | refine blk_drewN ?_ _ | refine blk_drew ?_ | refine blk_alloc ?_ _)); exact BK184.out)) : gb184 ≠ gb187)); have n9_ := Aside0.mk ((by rw [hg]; exact Nat.ne_of_gt (blk_lt (g := gb184) (o := .cells #[.int .i64 0, .int .i64 0, .int .i64 0, .int .i64 0, .int .i64 0, .int .i64 0, .int .u32 0] 33 (0, 0)) (by (with_reducible repeat (first | refine blk_drewN ?_ _ | refine blk_drew ?_ | refine blk_alloc ?_ _)); exact BK184.out)) : gb187 ≠ gb184)); clear BK183; clear BK184; clear HB; have BK183 := n0_; have BK184 := n1_; have HB := n2_; have BK187 := n3_; have GW187 := n4_; have GE187 := n5_; have NB183_187 := n6_; have NB187_183 := n7_; have NB184_187 := n8_; have NB187_184 := n9_; clear n0_ n1_ n2_ n3_ n4_ n5_ n6_ n7_ n8_ n9_; clear hb hbox hg; have hnb25 := NB187_183.out; have hnc25 := NB183_187.out; have hnb26 := NB187_184.out; have hnc26 := NB184_187.out; have hcz27_0 : w24.cell? ⟨gb187, 0, none⟩ = some (.int .i64 0) := (blk_cell BK187.out 0).trans rfl; have hcz27_1 : w24.cell? ⟨gb187, 1, none⟩ = some (.int .i64 0) := (blk_cell BK187.out 1).trans rfl; have hcz27_2 : w24.cell? ⟨gb187, 2, none⟩ = some (.int .i64 0) := (blk_cell BK187.out 2).trans rfl; have hcz27_3 : w24.cell? ⟨gb187, 3, none⟩ = some (.int .i64 0) := (blk_cell BK187.out 3).trans rfl; have hcz27_4 : w24.cell? ⟨gb187, 4, none⟩ = some (.int .i64 0) := (blk_cell BK187.out 4).trans rfl; have hcz27_5 : w24.cell? ⟨gb187, 5, none⟩ = some (.int .i64 0) := (blk_cell BK187.out 5).trans rfl; have hcz27_6 : w24.cell? ⟨gb187, 6, none⟩ = some (.int .u32 0) := (blk_cell BK187.out 6).trans rfl; have hfz27_0 := blk_frozen BK187.out 0; have hfz27_1 := blk_frozen BK187.out 1; have hfz27_2 := blk_frozen BK187.out 2; have hfz27_3 := blk_frozen BK187.out 3; have hfz27_4 := blk_frozen BK187.out 4; have hfz27_5 := blk_frozen BK187.out 5; have hfz27_6 := blk_frozen BK187.out 6))
       repeat (go_quiet (first | ((with_reducible refine gate_dst (N := 5) rfl ?_); refine box_event ?hg (N := 5) ?hd (cs := #[.int .i64 0, .int .i64 0, .int .i64 0, .int .i64 0, .int .i64 0, .int .i64 0, .int .u32 0]) (t := 33) ?hr ?_; (case hd => rfl); (case hg => rfl); (case hr => first | (go_simp; done) | (go_simp; rfl)); intro gb187 hg w24 hbox hb; have n0_ := Aside0.mk (blk_below (g := gb183) (o := .cells #[.int .i64 a0_0, .int .u64 a0_1] 36 (0, 0)) (by (with_reducible repeat (first | refine blk_drewN ?_ _ | refine blk_drew ?_ | refine blk_alloc ?_ _)); exact BK183.out) hb); have n1_ := Aside0.mk (blk_below (g := gb184) (o := .cells #[.int .i64 0, .int .i64 0, .int .i64 0, .int .i64 0, .int .i64 0, .int .i64 0, .int .u32 0] 33 (0, 0)) (by (with_reducible repeat (first | refine blk_drewN ?_ _ | refine blk_drew ?_ | refine blk_alloc ?_ _)); exact BK184.out) hb); have n2_ := Aside0.mk (below_step (by repeat (first | (with_reducible first | exact HB.out | apply below_alloc | apply pw_below_drewN | apply below_drew1 | refine below_set ?_ GE183.out | refine below_set ?_ GE184.out) | exact HB.out)) hb); have n3_ := Aside0.mk (hbox); have n4_ := Aside0.mk ((by rw [hg]; exact (below_size (by repeat (first | (with_reducible first | exact HB.out | apply below_alloc | apply pw_below_drewN | apply below_drew1 | refine below_set ?_ GE183.out | refine below_set ?_ GE184.out) | exact HB.out))) : w.heap.size ≤ gb187)); have n5_ := Aside0.mk ((by rw [hg]; exact (below_size (by repeat (first | (with_reducible first | exact HB.out | apply below_alloc | apply pw_below_drewN | apply below_drew1 | refine below_set ?_ GE183.out | refine below_set ?_ GE184.out) | exact HB.out))) : w.heap.size ≤ gb187)); have n6_ := Aside0.mk ((by rw [hg]; exact Nat.ne_of_lt (blk_lt (g := gb183) (o := .cells #[.int .i64 a0_0, .int .u64 a0_1] 36 (0, 0)) (by (with_reducible repeat (first | refine blk_drewN ?_ _ | refine blk_drew ?_ | refine blk_alloc ?_ _)); exact BK183.out)) : gb183 ≠ gb187)); have n7_ := Aside0.mk ((by rw [hg]; exact Nat.ne_of_gt (blk_lt (g := gb183) (o := .cells #[.int .i64 a0_0, .int .u64 a0_1] 36 (0, 0)) (by (with_reducible repeat (first | refine blk_drewN ?_ _ | refine blk_drew ?_ | refine blk_alloc ?_ _)); exact BK183.out)) : gb187 ≠ gb183)); have n8_ := Aside0.mk ((by rw [hg]; exact Nat.ne_of_lt (blk_lt (g := gb184) (o := .cells #[.int .i64 0, .int .i64 0, .int .i64 0, .int .i64 0, .int .i64 0, .int .i64 0, .int .u32 0] 33 (0, 0)) (by (with_reducible repeat (first | refine blk_drewN ?_ _ | refine blk_drew ?_ | refine blk_alloc ?_ _)); exact BK184.out)) : gb184 ≠ gb187)); have n9_ := Aside0.mk ((by rw [hg]; exact Nat.ne_of_gt (blk_lt (g := gb184) (o := .cells #[.int .i64 0, .int .i64 0, .int .i64 0, .int .i64 0, .int .i64 0, .int .i64 0, .int .u32 0] 33 (0, 0)) (by (with_reducible repeat (first | refine blk_drewN ?_ _ | refine blk_drew ?_ | refine blk_alloc ?_ _)); exact BK184.out)) : gb187 ≠ gb184)); clear BK183; clear BK184; clear HB; have BK183 := n0_; have BK184 := n1_; have HB := n2_; have BK187 := n3_; have GW187 := n4_; have GE187 := n5_; have NB183_187 := n6_; have NB187_183 := n7_; have NB184_187 := n8_; have NB187_184 := n9_; clear n0_ n1_ n2_ n3_ n4_ n5_ n6_ n7_ n8_ n9_; clear hb hbox hg; have hnb25 := NB187_183.out; have hnc25 := NB183_187.out; have hnb26 := NB187_184.out; have hnc26 := NB184_187.out; have hcz27_0 : w24.cell? ⟨gb187, 0, none⟩ = some (.int .i64 0) := (blk_cell BK187.out 0).trans rfl; have hcz27_1 : w24.cell? ⟨gb187, 1, none⟩ = some (.int .i64 0) := (blk_cell BK187.out 1).trans rfl; have hcz27_2 : w24.cell? ⟨gb187, 2, none⟩ = some (.int .i64 0) := (blk_cell BK187.out 2).trans rfl; have hcz27_3 : w24.cell? ⟨gb187, 3, none⟩ = some (.int .i64 0) := (blk_cell BK187.out 3).trans rfl; have hcz27_4 : w24.cell? ⟨gb187, 4, none⟩ = some (.int .i64 0) := (blk_cell BK187.out 4).trans rfl; have hcz27_5 : w24.cell? ⟨gb187, 5, none⟩ = some (.int .i64 0) := (blk_cell BK187.out 5).trans rfl; have hcz27_6 : w24.cell? ⟨gb187, 6, none⟩ = some (.int .u32 0) := (blk_cell BK187.out 6).trans rfl; have hfz27_0 := blk_frozen BK187.out 0; have hfz27_1 := blk_frozen BK187.out 1; have hfz27_2 := blk_frozen BK187.out 2; have hfz27_3 := blk_frozen BK187.out 3; have hfz27_4 := blk_frozen BK187.out 4; have hfz27_5 := blk_frozen BK187.out 5; have hfz27_6 := blk_frozen BK187.out 6)); try go_wp2_with (first | ((with_reducible refine gate_dst (N := 5) rfl ?_); refine box_event ?hg (N := 5) ?hd (cs := #[.int .i64 0, .int .i64 0, .int .i64 0, .int .i64 0, .int .i64 0, .int .i64 0, .int .u32 0]) (t := 33) ?hr ?_; (case hd => rfl); (case hg => rfl); (case hr => first | (go_simp; done) | (go_simp; rfl)); intro gb187 hg w24 hbox hb; have n0_ := Aside0.mk (blk_below (g := gb183) (o := .cells #[.int .i64 a0_0, .int .u64 a0_1] 36 (0, 0)) (by (with_reducible repeat (first | refine blk_drewN ?_ _ | refine blk_drew ?_ | refine blk_alloc ?_ _)); exact BK183.out) hb); have n1_ := Aside0.mk (blk_below (g := gb184) (o := .cells #[.int .i64 0, .int .i64 0, .int .i64 0, .int .i64 0, .int .i64 0, .int .i64 0, .int .u32 0] 33 (0, 0)) (by (with_reducible repeat (first | refine blk_drewN ?_ _ | refine blk_drew ?_ | refine blk_alloc ?_ _)); exact BK184.out) hb); have n2_ := Aside0.mk (below_step (by repeat (first | (with_reducible first | exact HB.out | apply below_alloc | apply pw_below_drewN | apply below_drew1 | refine below_set ?_ GE183.out | refine below_set ?_ GE184.out) | exact HB.out)) hb); have n3_ := Aside0.mk (hbox); have n4_ := Aside0.mk ((by rw [hg]; exact (below_size (by repeat (first | (with_reducible first | exact HB.out | apply below_alloc | apply pw_below_drewN | apply below_drew1 | refine below_set ?_ GE183.out | refine below_set ?_ GE184.out) | exact HB.out))) : w.heap.size ≤ gb187)); have n5_ := Aside0.mk ((by rw [hg]; exact (below_size (by repeat (first | (with_reducible first | exact HB.out | apply below_alloc | apply pw_below_drewN | apply below_drew1 | refine below_set ?_ GE183.out | refine below_set ?_ GE184.out) | exact HB.out))) : w.heap.size ≤ gb187)); have n6_ := Aside0.mk ((by rw [hg]; exact Nat.ne_of_lt (blk_lt (g := gb183) (o := .cells #[.int .i64 a0_0, .int .u64 a0_1] 36 (0, 0)) (by (with_reducible repeat (first | refine blk_drewN ?_ _ | refine blk_drew ?_ | refine blk_alloc ?_ _)); exact BK183.out)) : gb183 ≠ gb187)); have n7_ := Aside0.mk ((by rw [hg]; exact Nat.ne_of_gt (blk_lt (g := gb183) (o := .cells #[.int .i64 a0_0, .int .u64 a0_1] 36 (0, 0)) (by (with_reducible repeat (first | refine blk_drewN ?_ _ | refine blk_drew ?_ | refine blk_alloc ?_ _)); exact BK183.out)) : gb187 ≠ gb183)); have n8_ := Aside0.mk ((by rw [hg]; exact Nat.ne_of_lt (blk_lt (g := gb184) (o := .cells #[.int .i64 0, .int .i64 0, .int .i64 0, .int .i64 0, .int .i64 0, .int .i64 0, .int .u32 0] 33 (0, 0)) (by (with_reducible repeat (first | refine blk_drewN ?_ _ | refine blk_drew ?_ | refine blk_alloc ?_ _)); exact BK184.out)) : gb184 ≠ gb187)); have n9_ := Aside0.mk ((by rw [hg]; exact Nat.ne_of_gt (blk_lt (g := gb184) (o := .cells #[.int .i64 0, .int .i64 0, .int .i64 0, .int .i64 0, .int .i64 0, .int .i64 0, .int .u32 0] 33 (0, 0)) (by (with_reducible repeat (first | refine blk_drewN ?_ _ | refine blk_drew ?_ | refine blk_alloc ?_ _)); exact BK184.out)) : gb187 ≠ gb184)); clear BK183; clear BK184; clear HB; have BK183 := n0_; have BK184 := n1_; have HB := n2_; have BK187 := n3_; have GW187 := n4_; have GE187 := n5_; have NB183_187 := n6_; have NB187_183 := n7_; have NB184_187 := n8_; have NB187_184 := n9_; clear n0_ n1_ n2_ n3_ n4_ n5_ n6_ n7_ n8_ n9_; clear hb hbox hg; have hnb25 := NB187_183.out; have hnc25 := NB183_187.out; have hnb26 := NB187_184.out; have hnc26 := NB184_187.out; have hcz27_0 : w24.cell? ⟨gb187, 0, none⟩ = some (.int .i64 0) := (blk_cell BK187.out 0).trans rfl; have hcz27_1 : w24.cell? ⟨gb187, 1, none⟩ = some (.int .i64 0) := (blk_cell BK187.out 1).trans rfl; have hcz27_2 : w24.cell? ⟨gb187, 2, none⟩ = some (.int .i64 0) := (blk_cell BK187.out 2).trans rfl; have hcz27_3 : w24.cell? ⟨gb187, 3, none⟩ = some (.int .i64 0) := (blk_cell BK187.out 3).trans rfl; have hcz27_4 : w24.cell? ⟨gb187, 4, none⟩ = some (.int .i64 0) := (blk_cell BK187.out 4).trans rfl; have hcz27_5 : w24.cell? ⟨gb187, 5, none⟩ = some (.int .i64 0) := (blk_cell BK187.out 5).trans rfl; have hcz27_6 : w24.cell? ⟨gb187, 6, none⟩ = some (.int .u32 0) := (blk_cell BK187.out 6).trans rfl; have hfz27_0 := blk_frozen BK187.out 0; have hfz27_1 := blk_frozen BK187.out 1; have hfz27_2 := blk_frozen BK187.out 2; have hfz27_3 := blk_frozen BK187.out 3; have hfz27_4 := blk_frozen BK187.out 4; have hfz27_5 := blk_frozen BK187.out 5; have hfz27_6 := blk_frozen BK187.out 6)))
       go_loopg [6] kj13 (fun kq v6 w' => ∃ (x6_3 : Int) (x188000_3 : Int), v6 = .int .i64 x6_3 ∧ Aside0 (foliotref02_OfDate.l0 kq x6_3 x188000_3 1 0 (Int.tmod (wrap64 (Int.tdiv (wrap64 ((wrap64 ((wrap64 (a0_0 * 4294967296)) + (wrap64 (a0_1 / 4294967296)))) + (wrap64 (t185 * 86400)))) 3600)) 24) (Int.tmod (wrap64 (Int.tdiv (wrap64 ((wrap64 ((wrap64 (a0_0 * 4294967296)) + (wrap64 (a0_1 / 4294967296)))) + (wrap64 (t185 * 86400)))) 60)) 60) (Int.tmod (wrap64 ((wrap64 ((wrap64 (a0_0 * 4294967296)) + (wrap64 (a0_1 / 4294967296)))) + (wrap64 (t185 * 86400)))) 60) ((a0_1) % 4294967296) = some (r1, r2, r3, r4, r5, r6, r7, r8)) ∧ Aside0 (kq ≤ kj13) ∧ Aside0 (w'.heap[gb183]? = some (.cells #[.int .i64 a0_0, .int .u64 a0_1] 36 (0, 0))) ∧ Aside0 (w'.heap[gb184]? = some (.cells #[.int .i64 0, .int .i64 0, .int .i64 0, .int .i64 0, .int .i64 0, .int .i64 0, .int .u32 0] 33 (0, 0))) ∧ Aside0 (w'.heap[gb187]? = some (.cells #[.int .i64 x188000_3, .int .i64 1, .int .i64 0, .int .i64 (Int.tmod (wrap64 (Int.tdiv (wrap64 ((wrap64 ((wrap64 (a0_0 * 4294967296)) + (wrap64 (a0_1 / 4294967296)))) + (wrap64 (t185 * 86400)))) 3600)) 24), .int .i64 (Int.tmod (wrap64 (Int.tdiv (wrap64 ((wrap64 ((wrap64 (a0_0 * 4294967296)) + (wrap64 (a0_1 / 4294967296)))) + (wrap64 (t185 * 86400)))) 60)) 60), .int .i64 (Int.tmod (wrap64 ((wrap64 ((wrap64 (a0_0 * 4294967296)) + (wrap64 (a0_1 / 4294967296)))) + (wrap64 (t185 * 86400)))) 60), .int .u32 ((a0_1) % 4294967296)] 33 (0, 0))) ∧ Aside0 (Below w.heap.size w w'))
       case atStart => exact ⟨(wrap64 (Int.tdiv (wrap64 ((wrap64 ((wrap64 (a0_0 * 4294967296)) + (wrap64 (a0_1 / 4294967296)))) + (wrap64 (t185 * 86400)))) 86400)), (1), (by first | rfl | (simp; done) | (simp [*]; done)), H', ⟨Nat.le_refl _⟩, ⟨by (with_reducible repeat (first | refine blk_drewN ?_ _ | refine blk_drew ?_ | refine blk_alloc ?_ _)); refine blk_far ?_ NB183_187.out _; (with_reducible repeat (first | refine blk_drewN ?_ _ | refine blk_drew ?_ | refine blk_alloc ?_ _)); refine blk_far ?_ NB183_187.out _; (with_reducible repeat (first | refine blk_drewN ?_ _ | refine blk_drew ?_ | refine blk_alloc ?_ _)); refine blk_far ?_ NB183_187.out _; (with_reducible repeat (first | refine blk_drewN ?_ _ | refine blk_drew ?_ | refine blk_alloc ?_ _)); refine blk_far ?_ NB183_187.out _; (with_reducible repeat (first | refine blk_drewN ?_ _ | refine blk_drew ?_ | refine blk_alloc ?_ _)); refine blk_far ?_ NB183_187.out _; (with_reducible repeat (first | refine blk_drewN ?_ _ | refine blk_drew ?_ | refine blk_alloc ?_ _)); refine blk_far ?_ NB183_187.out _; (with_reducible repeat (first | refine blk_drewN ?_ _ | refine blk_drew ?_ | refine blk_alloc ?_ _)); refine blk_far ?_ NB183_187.out _; (with_reducible repeat (first | refine blk_drewN ?_ _ | refine blk_drew ?_ | refine blk_alloc ?_ _)); exact BK183.out⟩, ⟨by (with_reducible repeat (first | refine blk_drewN ?_ _ | refine blk_drew ?_ | refine blk_alloc ?_ _)); refine blk_far ?_ NB184_187.out _; (with_reducible repeat (first | refine blk_drewN ?_ _ | refine blk_drew ?_ | refine blk_alloc ?_ _)); refine blk_far ?_ NB184_187.out _; (with_reducible repeat (first | refine blk_drewN ?_ _ | refine blk_drew ?_ | refine blk_alloc ?_ _)); refine blk_far ?_ NB184_187.out _; (with_reducible repeat (first | refine blk_drewN ?_ _ | refine blk_drew ?_ | refine blk_alloc ?_ _)); refine blk_far ?_ NB184_187.out _; (with_reducible repeat (first | refine blk_drewN ?_ _ | refine blk_drew ?_ | refine blk_alloc ?_ _)); refine blk_far ?_ NB184_187.out _; (with_reducible repeat (first | refine blk_drewN ?_ _ | refine blk_drew ?_ | refine blk_alloc ?_ _)); refine blk_far ?_ NB184_187.out _; (with_reducible repeat (first | refine blk_drewN ?_ _ | refine blk_drew ?_ | refine blk_alloc ?_ _)); refine blk_far ?_ NB184_187.out _; (with_reducible repeat (first | refine blk_drewN ?_ _ | refine blk_drew ?_ | refine blk_alloc ?_ _)); exact BK184.out⟩, ⟨by (with_reducible repeat (first | refine blk_drewN ?_ _ | refine blk_drew ?_ | refine blk_alloc ?_ _)); refine blk_put (cs := #[.int .i64 1, .int .i64 1, .int .i64 0, .int .i64 (Int.tmod (wrap64 (Int.tdiv (wrap64 ((wrap64 ((wrap64 (a0_0 * 4294967296)) + (wrap64 (a0_1 / 4294967296)))) + (wrap64 (t185 * 86400)))) 3600)) 24), .int .i64 (Int.tmod (wrap64 (Int.tdiv (wrap64 ((wrap64 ((wrap64 (a0_0 * 4294967296)) + (wrap64 (a0_1 / 4294967296)))) + (wrap64 (t185 * 86400)))) 60)) 60), .int .i64 (Int.tmod (wrap64 ((wrap64 ((wrap64 (a0_0 * 4294967296)) + (wrap64 (a0_1 / 4294967296)))) + (wrap64 (t185 * 86400)))) 60), .int .u32 0]) ?_ 6 _ rfl; (with_reducible repeat (first | refine blk_drewN ?_ _ | refine blk_drew ?_ | refine blk_alloc ?_ _)); refine blk_put (cs := #[.int .i64 1, .int .i64 1, .int .i64 0, .int .i64 (Int.tmod (wrap64 (Int.tdiv (wrap64 ((wrap64 ((wrap64 (a0_0 * 4294967296)) + (wrap64 (a0_1 / 4294967296)))) + (wrap64 (t185 * 86400)))) 3600)) 24), .int .i64 (Int.tmod (wrap64 (Int.tdiv (wrap64 ((wrap64 ((wrap64 (a0_0 * 4294967296)) + (wrap64 (a0_1 / 4294967296)))) + (wrap64 (t185 * 86400)))) 60)) 60), .int .i64 0, .int .u32 0]) ?_ 5 _ rfl; (with_reducible repeat (first | refine blk_drewN ?_ _ | refine blk_drew ?_ | refine blk_alloc ?_ _)); refine blk_put (cs := #[.int .i64 1, .int .i64 1, .int .i64 0, .int .i64 (Int.tmod (wrap64 (Int.tdiv (wrap64 ((wrap64 ((wrap64 (a0_0 * 4294967296)) + (wrap64 (a0_1 / 4294967296)))) + (wrap64 (t185 * 86400)))) 3600)) 24), .int .i64 0, .int .i64 0, .int .u32 0]) ?_ 4 _ rfl; (with_reducible repeat (first | refine blk_drewN ?_ _ | refine blk_drew ?_ | refine blk_alloc ?_ _)); refine blk_put (cs := #[.int .i64 1, .int .i64 1, .int .i64 0, .int .i64 0, .int .i64 0, .int .i64 0, .int .u32 0]) ?_ 3 _ rfl; (with_reducible repeat (first | refine blk_drewN ?_ _ | refine blk_drew ?_ | refine blk_alloc ?_ _)); refine blk_put (cs := #[.int .i64 1, .int .i64 1, .int .i64 0, .int .i64 0, .int .i64 0, .int .i64 0, .int .u32 0]) ?_ 2 _ rfl; (with_reducible repeat (first | refine blk_drewN ?_ _ | refine blk_drew ?_ | refine blk_alloc ?_ _)); refine blk_put (cs := #[.int .i64 1, .int .i64 0, .int .i64 0, .int .i64 0, .int .i64 0, .int .i64 0, .int .u32 0]) ?_ 1 _ rfl; (with_reducible repeat (first | refine blk_drewN ?_ _ | refine blk_drew ?_ | refine blk_alloc ?_ _)); refine blk_put (cs := #[.int .i64 0, .int .i64 0, .int .i64 0, .int .i64 0, .int .i64 0, .int .i64 0, .int .u32 0]) ?_ 0 _ rfl; (with_reducible repeat (first | refine blk_drewN ?_ _ | refine blk_drew ?_ | refine blk_alloc ?_ _)); exact BK187.out⟩, ⟨by repeat (first | (with_reducible first | exact HB.out | apply below_alloc | apply pw_below_drewN | apply below_drew1 | refine below_set ?_ GE183.out | refine below_set ?_ GE184.out | refine below_set ?_ GE187.out) | exact HB.out)⟩⟩
       case round =>
        clear H'
        try clear c1
        try clear c2
        try clear p2
        try clear c5
        try clear c5b0
        try clear c6
        try clear p6
        try clear c8
        try clear c10
        try clear c11
        try clear c15
        try clear c17
        try clear c17b0
        try clear c19
        try clear c20
        try clear c22
        try clear c25
        try clear c26
        try clear hcz12_0
        try clear hcz12_1
        try clear hcz12_2
        try clear hcz12_3
        try clear hcz12_4
        try clear hcz12_5
        try clear hcz12_6
        try clear hcz16_0
        try clear hcz16_1
        try clear hcz21_0
        try clear hcz21_1
        try clear hcz21_2
        try clear hcz21_3
        try clear hcz21_4
        try clear hcz21_5
        try clear hcz21_6
        try clear hcz23_0
        try clear hcz23_1
        try clear hcz27_0
        try clear hcz27_1
        try clear hcz27_2
        try clear hcz27_3
        try clear hcz27_4
        try clear hcz27_5
        try clear hcz27_6
        try clear hcz7_0
        try clear hcz7_1
        try clear hcz9_0
        try clear hcz9_1
        try clear hfz12_0
        try clear hfz12_1
        try clear hfz12_2
        try clear hfz12_3
        try clear hfz12_4
        try clear hfz12_5
        try clear hfz12_6
        try clear hfz16_0
        try clear hfz16_1
        try clear hfz21_0
        try clear hfz21_1
        try clear hfz21_2
        try clear hfz21_3
        try clear hfz21_4
        try clear hfz21_5
        try clear hfz21_6
        try clear hfz23_0
        try clear hfz23_1
        try clear hfz27_0
        try clear hfz27_1
        try clear hfz27_2
        try clear hfz27_3
        try clear hfz27_4
        try clear hfz27_5
        try clear hfz27_6
        try clear hfz7_0
        try clear hfz7_1
        try clear hfz9_0
        try clear hfz9_1
        try clear p2
        try clear p6
        obtain ⟨x6_3, x188000_3, rfl, HA, HK3, BK183, BK184, BK187, HB⟩ := hrel
        cases gk with
        | zero => exact absurd HA.out (by simp [foliotref02_OfDate.l0])
        | succ k3 =>
         have H := HA.out
         clear HA
         simp only [foliotref02_OfDate.l0] at H
         replace H := Option.bind_eq_some_iff.mp H
         obtain ⟨t188, A280, H⟩ := H
         replace H : (if x6_3 ≥ t188 then ((foliotref02_days.f x188000_3).bind fun t189 => (foliotref02_OfDate.l0 k3 (wrap64 (x6_3 - t189)) (wrap64 (x188000_3 + 1)) 1 0 (Int.tmod (wrap64 (Int.tdiv (wrap64 ((wrap64 ((wrap64 (a0_0 * 4294967296)) + (wrap64 (a0_1 / 4294967296)))) + (wrap64 (t185 * 86400)))) 3600)) 24) (Int.tmod (wrap64 (Int.tdiv (wrap64 ((wrap64 ((wrap64 (a0_0 * 4294967296)) + (wrap64 (a0_1 / 4294967296)))) + (wrap64 (t185 * 86400)))) 60)) 60) (Int.tmod (wrap64 ((wrap64 ((wrap64 (a0_0 * 4294967296)) + (wrap64 (a0_1 / 4294967296)))) + (wrap64 (t185 * 86400)))) 60) ((a0_1) % 4294967296))) else (foliotref02_OfDate.l1 k3 x6_3 x188000_3 1 0 (Int.tmod (wrap64 (Int.tdiv (wrap64 ((wrap64 ((wrap64 (a0_0 * 4294967296)) + (wrap64 (a0_1 / 4294967296)))) + (wrap64 (t185 * 86400)))) 3600)) 24) (Int.tmod (wrap64 (Int.tdiv (wrap64 ((wrap64 ((wrap64 (a0_0 * 4294967296)) + (wrap64 (a0_1 / 4294967296)))) + (wrap64 (t185 * 86400)))) 60)) 60) (Int.tmod (wrap64 ((wrap64 ((wrap64 (a0_0 * 4294967296)) + (wrap64 (a0_1 / 4294967296)))) + (wrap64 (t185 * 86400)))) 60) ((a0_1) % 4294967296))) = some (r1, r2, r3, r4, r5, r6, r7, r8) := H
         have A28 := Aside0.mk A280
         clear A280
         by_cases c29 : x6_3 ≥ t188
         ·rw [if_pos c29] at H
          have c29b0 : decide (t188 ≤ x6_3) = true := decide_eq_true c29
          clear c29
          replace H := Option.bind_eq_some_iff.mp H
          obtain ⟨t189, A300, H⟩ := H
          replace H : (foliotref02_OfDate.l0 k3 (wrap64 (x6_3 - t189)) (wrap64 (x188000_3 + 1)) 1 0 (Int.tmod (wrap64 (Int.tdiv (wrap64 ((wrap64 ((wrap64 (a0_0 * 4294967296)) + (wrap64 (a0_1 / 4294967296)))) + (wrap64 (t185 * 86400)))) 3600)) 24) (Int.tmod (wrap64 (Int.tdiv (wrap64 ((wrap64 ((wrap64 (a0_0 * 4294967296)) + (wrap64 (a0_1 / 4294967296)))) + (wrap64 (t185 * 86400)))) 60)) 60) (Int.tmod (wrap64 ((wrap64 ((wrap64 (a0_0 * 4294967296)) + (wrap64 (a0_1 / 4294967296)))) + (wrap64 (t185 * 86400)))) 60) ((a0_1) % 4294967296)) = some (r1, r2, r3, r4, r5, r6, r7, r8) := H
          have A30 := Aside0.mk A300
          clear A300
          have e_one : t189 = t188 := Option.some.inj (A30.out.symm.trans A28.out)
          rw [e_one] at H
          clear e_one
          have H' := Aside0.mk H
          clear H
          have hnb31 := NB187_183.out
          have hnc31 := NB183_187.out
          have hnb32 := NB187_184.out
          have hnc32 := NB184_187.out
          have hcz33_0 : wr.cell? ⟨gb187, 0, none⟩ = some (.int .i64 x188000_3) := (blk_cell BK187.out 0).trans rfl
          have hcz33_1 : wr.cell? ⟨gb187, 1, none⟩ = some (.int .i64 1) := (blk_cell BK187.out 1).trans rfl
          have hcz33_2 : wr.cell? ⟨gb187, 2, none⟩ = some (.int .i64 0) := (blk_cell BK187.out 2).trans rfl
          have hcz33_3 : wr.cell? ⟨gb187, 3, none⟩ = some (.int .i64 (Int.tmod (wrap64 (Int.tdiv (wrap64 ((wrap64 ((wrap64 (a0_0 * 4294967296)) + (wrap64 (a0_1 / 4294967296)))) + (wrap64 (t185 * 86400)))) 3600)) 24)) := (blk_cell BK187.out 3).trans rfl
          have hcz33_4 : wr.cell? ⟨gb187, 4, none⟩ = some (.int .i64 (Int.tmod (wrap64 (Int.tdiv (wrap64 ((wrap64 ((wrap64 (a0_0 * 4294967296)) + (wrap64 (a0_1 / 4294967296)))) + (wrap64 (t185 * 86400)))) 60)) 60)) := (blk_cell BK187.out 4).trans rfl
          have hcz33_5 : wr.cell? ⟨gb187, 5, none⟩ = some (.int .i64 (Int.tmod (wrap64 ((wrap64 ((wrap64 (a0_0 * 4294967296)) + (wrap64 (a0_1 / 4294967296)))) + (wrap64 (t185 * 86400)))) 60)) := (blk_cell BK187.out 5).trans rfl
          have hcz33_6 : wr.cell? ⟨gb187, 6, none⟩ = some (.int .u32 ((a0_1) % 4294967296)) := (blk_cell BK187.out 6).trans rfl
          have hfz33_0 := blk_frozen BK187.out 0
          have hfz33_1 := blk_frozen BK187.out 1
          have hfz33_2 := blk_frozen BK187.out 2
          have hfz33_3 := blk_frozen BK187.out 3
          have hfz33_4 := blk_frozen BK187.out 4
          have hfz33_5 := blk_frozen BK187.out 5
          have hfz33_6 := blk_frozen BK187.out 6
          go_wp2_with (first | (go_at_call 36; (with_reducible refine (foliotref02_days.calls x188000_3 t188 _ A28.out).mono ?_); rintro e w' ⟨rfl, ⟨nd, rfl⟩⟩; (try first | exact ⟨rfl, _, World.drewN_drewN _ _ _⟩ | exact ⟨rfl, _, Eq.trans (World.drewN_drewN _ _ _) (congrArg (World.drewN _) (Nat.add_assoc _ _ _))⟩)) | (go_at_call 36; (with_reducible refine (foliotref02_days.calls x188000_3 t189 _ A30.out).mono ?_); rintro e w' ⟨rfl, ⟨nd, rfl⟩⟩; (try first | exact ⟨rfl, _, World.drewN_drewN _ _ _⟩ | exact ⟨rfl, _, Eq.trans (World.drewN_drewN _ _ _) (congrArg (World.drewN _) (Nat.add_assoc _ _ _))⟩)))
          repeat (go_quiet (first | (go_at_call 36; (with_reducible refine (foliotref02_days.calls x188000_3 t188 _ A28.out).mono ?_); rintro e w' ⟨rfl, ⟨nd, rfl⟩⟩; (try first | exact ⟨rfl, _, World.drewN_drewN _ _ _⟩ | exact ⟨rfl, _, Eq.trans (World.drewN_drewN _ _ _) (congrArg (World.drewN _) (Nat.add_assoc _ _ _))⟩)) | (go_at_call 36; (with_reducible refine (foliotref02_days.calls x188000_3 t189 _ A30.out).mono ?_); rintro e w' ⟨rfl, ⟨nd, rfl⟩⟩; (try first | exact ⟨rfl, _, World.drewN_drewN _ _ _⟩ | exact ⟨rfl, _, Eq.trans (World.drewN_drewN _ _ _) (congrArg (World.drewN _) (Nat.add_assoc _ _ _))⟩))); try go_wp2_with (first | (go_at_call 36; (with_reducible refine (foliotref02_days.calls x188000_3 t188 _ A28.out).mono ?_); rintro e w' ⟨rfl, ⟨nd, rfl⟩⟩; (try first | exact ⟨rfl, _, World.drewN_drewN _ _ _⟩ | exact ⟨rfl, _, Eq.trans (World.drewN_drewN _ _ _) (congrArg (World.drewN _) (Nat.add_assoc _ _ _))⟩)) | (go_at_call 36; (with_reducible refine (foliotref02_days.calls x188000_3 t189 _ A30.out).mono ?_); rintro e w' ⟨rfl, ⟨nd, rfl⟩⟩; (try first | exact ⟨rfl, _, World.drewN_drewN _ _ _⟩ | exact ⟨rfl, _, Eq.trans (World.drewN_drewN _ _ _) (congrArg (World.drewN _) (Nat.add_assoc _ _ _))⟩))))
          go_roundg k3
          case measure => have := HJ1.out; have := HJ13.out; have := HK3.out; omega
          case rel => exact ⟨(wrap64 (x6_3 - t188)), (wrap64 (x188000_3 + 1)), (by first | rfl | (simp; done) | (simp [*]; done)), H', ⟨by have := HJ1.out; have := HJ13.out; have := HK3.out; omega⟩, ⟨by (with_reducible repeat (first | refine blk_drewN ?_ _ | refine blk_drew ?_ | refine blk_alloc ?_ _)); refine blk_far ?_ NB183_187.out _; (with_reducible repeat (first | refine blk_drewN ?_ _ | refine blk_drew ?_ | refine blk_alloc ?_ _)); exact BK183.out⟩, ⟨by (with_reducible repeat (first | refine blk_drewN ?_ _ | refine blk_drew ?_ | refine blk_alloc ?_ _)); refine blk_far ?_ NB184_187.out _; (with_reducible repeat (first | refine blk_drewN ?_ _ | refine blk_drew ?_ | refine blk_alloc ?_ _)); exact BK184.out⟩, ⟨by (with_reducible repeat (first | refine blk_drewN ?_ _ | refine blk_drew ?_ | refine blk_alloc ?_ _)); refine blk_put (cs := #[.int .i64 x188000_3, .int .i64 1, .int .i64 0, .int .i64 (Int.tmod (wrap64 (Int.tdiv (wrap64 ((wrap64 ((wrap64 (a0_0 * 4294967296)) + (wrap64 (a0_1 / 4294967296)))) + (wrap64 (t185 * 86400)))) 3600)) 24), .int .i64 (Int.tmod (wrap64 (Int.tdiv (wrap64 ((wrap64 ((wrap64 (a0_0 * 4294967296)) + (wrap64 (a0_1 / 4294967296)))) + (wrap64 (t185 * 86400)))) 60)) 60), .int .i64 (Int.tmod (wrap64 ((wrap64 ((wrap64 (a0_0 * 4294967296)) + (wrap64 (a0_1 / 4294967296)))) + (wrap64 (t185 * 86400)))) 60), .int .u32 ((a0_1) % 4294967296)]) ?_ 0 _ rfl; (with_reducible repeat (first | refine blk_drewN ?_ _ | refine blk_drew ?_ | refine blk_alloc ?_ _)); exact BK187.out⟩, ⟨by repeat (first | (with_reducible first | exact HB.out | apply below_alloc | apply pw_below_drewN | apply below_drew1 | refine below_set ?_ GE183.out | refine below_set ?_ GE184.out | refine below_set ?_ GE187.out) | exact HB.out)⟩⟩
         ·rw [if_neg c29] at H
          have c29b0 : decide (t188 ≤ x6_3) = false := decide_eq_false c29
          clear c29
          have H' := Aside0.mk H
          clear H
          have hnb34 := NB187_183.out
          have hnc34 := NB183_187.out
          have hnb35 := NB187_184.out
          have hnc35 := NB184_187.out
          have hcz36_0 : wr.cell? ⟨gb187, 0, none⟩ = some (.int .i64 x188000_3) := (blk_cell BK187.out 0).trans rfl
          have hcz36_1 : wr.cell? ⟨gb187, 1, none⟩ = some (.int .i64 1) := (blk_cell BK187.out 1).trans rfl
          have hcz36_2 : wr.cell? ⟨gb187, 2, none⟩ = some (.int .i64 0) := (blk_cell BK187.out 2).trans rfl
          have hcz36_3 : wr.cell? ⟨gb187, 3, none⟩ = some (.int .i64 (Int.tmod (wrap64 (Int.tdiv (wrap64 ((wrap64 ((wrap64 (a0_0 * 4294967296)) + (wrap64 (a0_1 / 4294967296)))) + (wrap64 (t185 * 86400)))) 3600)) 24)) := (blk_cell BK187.out 3).trans rfl
          have hcz36_4 : wr.cell? ⟨gb187, 4, none⟩ = some (.int .i64 (Int.tmod (wrap64 (Int.tdiv (wrap64 ((wrap64 ((wrap64 (a0_0 * 4294967296)) + (wrap64 (a0_1 / 4294967296)))) + (wrap64 (t185 * 86400)))) 60)) 60)) := (blk_cell BK187.out 4).trans rfl
          have hcz36_5 : wr.cell? ⟨gb187, 5, none⟩ = some (.int .i64 (Int.tmod (wrap64 ((wrap64 ((wrap64 (a0_0 * 4294967296)) + (wrap64 (a0_1 / 4294967296)))) + (wrap64 (t185 * 86400)))) 60)) := (blk_cell BK187.out 5).trans rfl
          have hcz36_6 : wr.cell? ⟨gb187, 6, none⟩ = some (.int .u32 ((a0_1) % 4294967296)) := (blk_cell BK187.out 6).trans rfl
          have hfz36_0 := blk_frozen BK187.out 0
          have hfz36_1 := blk_frozen BK187.out 1
          have hfz36_2 := blk_frozen BK187.out 2
          have hfz36_3 := blk_frozen BK187.out 3
          have hfz36_4 := blk_frozen BK187.out 4
          have hfz36_5 := blk_frozen BK187.out 5
          have hfz36_6 := blk_frozen BK187.out 6
          go_wp2_with (first | (go_at_call 36; (with_reducible refine (foliotref02_days.calls x188000_3 t188 _ A28.out).mono ?_); rintro e w' ⟨rfl, ⟨nd, rfl⟩⟩; (try first | exact ⟨rfl, _, World.drewN_drewN _ _ _⟩ | exact ⟨rfl, _, Eq.trans (World.drewN_drewN _ _ _) (congrArg (World.drewN _) (Nat.add_assoc _ _ _))⟩)))
          repeat (go_quiet (first | (go_at_call 36; (with_reducible refine (foliotref02_days.calls x188000_3 t188 _ A28.out).mono ?_); rintro e w' ⟨rfl, ⟨nd, rfl⟩⟩; (try first | exact ⟨rfl, _, World.drewN_drewN _ _ _⟩ | exact ⟨rfl, _, Eq.trans (World.drewN_drewN _ _ _) (congrArg (World.drewN _) (Nat.add_assoc _ _ _))⟩))); try go_wp2_with (first | (go_at_call 36; (with_reducible refine (foliotref02_days.calls x188000_3 t188 _ A28.out).mono ?_); rintro e w' ⟨rfl, ⟨nd, rfl⟩⟩; (try first | exact ⟨rfl, _, World.drewN_drewN _ _ _⟩ | exact ⟨rfl, _, Eq.trans (World.drewN_drewN _ _ _) (congrArg (World.drewN _) (Nat.add_assoc _ _ _))⟩))))
          go_loopg [6] k3 (fun kq v6 w' => ∃ (x6_4 : Int) (x188001_4 : Int), v6 = .int .i64 x6_4 ∧ Aside0 (foliotref02_OfDate.l1 kq x6_4 x188000_3 x188001_4 0 (Int.tmod (wrap64 (Int.tdiv (wrap64 ((wrap64 ((wrap64 (a0_0 * 4294967296)) + (wrap64 (a0_1 / 4294967296)))) + (wrap64 (t185 * 86400)))) 3600)) 24) (Int.tmod (wrap64 (Int.tdiv (wrap64 ((wrap64 ((wrap64 (a0_0 * 4294967296)) + (wrap64 (a0_1 / 4294967296)))) + (wrap64 (t185 * 86400)))) 60)) 60) (Int.tmod (wrap64 ((wrap64 ((wrap64 (a0_0 * 4294967296)) + (wrap64 (a0_1 / 4294967296)))) + (wrap64 (t185 * 86400)))) 60) ((a0_1) % 4294967296) = some (r1, r2, r3, r4, r5, r6, r7, r8)) ∧ Aside0 (kq ≤ k3) ∧ Aside0 (w'.heap[gb183]? = some (.cells #[.int .i64 a0_0, .int .u64 a0_1] 36 (0, 0))) ∧ Aside0 (w'.heap[gb184]? = some (.cells #[.int .i64 0, .int .i64 0, .int .i64 0, .int .i64 0, .int .i64 0, .int .i64 0, .int .u32 0] 33 (0, 0))) ∧ Aside0 (w'.heap[gb187]? = some (.cells #[.int .i64 x188000_3, .int .i64 x188001_4, .int .i64 0, .int .i64 (Int.tmod (wrap64 (Int.tdiv (wrap64 ((wrap64 ((wrap64 (a0_0 * 4294967296)) + (wrap64 (a0_1 / 4294967296)))) + (wrap64 (t185 * 86400)))) 3600)) 24), .int .i64 (Int.tmod (wrap64 (Int.tdiv (wrap64 ((wrap64 ((wrap64 (a0_0 * 4294967296)) + (wrap64 (a0_1 / 4294967296)))) + (wrap64 (t185 * 86400)))) 60)) 60), .int .i64 (Int.tmod (wrap64 ((wrap64 ((wrap64 (a0_0 * 4294967296)) + (wrap64 (a0_1 / 4294967296)))) + (wrap64 (t185 * 86400)))) 60), .int .u32 ((a0_1) % 4294967296)] 33 (0, 0))) ∧ Aside0 (Below w.heap.size w w'))
          case atStart => exact ⟨(x6_3), (1), (by first | rfl | (simp; done) | (simp [*]; done)), H', ⟨Nat.le_refl _⟩, ⟨by (with_reducible repeat (first | refine blk_drewN ?_ _ | refine blk_drew ?_ | refine blk_alloc ?_ _)); exact BK183.out⟩, ⟨by (with_reducible repeat (first | refine blk_drewN ?_ _ | refine blk_drew ?_ | refine blk_alloc ?_ _)); exact BK184.out⟩, ⟨by (with_reducible repeat (first | refine blk_drewN ?_ _ | refine blk_drew ?_ | refine blk_alloc ?_ _)); exact BK187.out⟩, ⟨by repeat (first | (with_reducible first | exact HB.out | apply below_alloc | apply pw_below_drewN | apply below_drew1 | refine below_set ?_ GE183.out | refine below_set ?_ GE184.out | refine below_set ?_ GE187.out) | exact HB.out)⟩⟩
          case round =>
           clear H'
           try clear c1
           try clear c2
           try clear p2
           try clear c3
           try clear c5
           try clear c5b0
           try clear c6
           try clear p6
           try clear c8
           try clear c10
           try clear c11
           try clear c15
           try clear c17
           try clear c17b0
           try clear c19
           try clear c20
           try clear c22
           try clear c25
           try clear c26
           try clear c29
           try clear c29b0
           try clear c31
           try clear c32
           try clear c34
           try clear c35
           try clear hcz12_0
           try clear hcz12_1
           try clear hcz12_2
           try clear hcz12_3
           try clear hcz12_4
           try clear hcz12_5
           try clear hcz12_6
           try clear hcz16_0
           try clear hcz16_1
           try clear hcz21_0
           try clear hcz21_1
           try clear hcz21_2
           try clear hcz21_3
           try clear hcz21_4
           try clear hcz21_5
           try clear hcz21_6
           try clear hcz23_0
           try clear hcz23_1
           try clear hcz27_0
           try clear hcz27_1
           try clear hcz27_2
           try clear hcz27_3
           try clear hcz27_4
           try clear hcz27_5
           try clear hcz27_6
           try clear hcz33_0
           try clear hcz33_1
           try clear hcz33_2
           try clear hcz33_3
           try clear hcz33_4
           try clear hcz33_5
           try clear hcz33_6
           try clear hcz36_0
           try clear hcz36_1
           try clear hcz36_2
           try clear hcz36_3
           try clear hcz36_4
           try clear hcz36_5
           try clear hcz36_6
           try clear hcz7_0
           try clear hcz7_1
           try clear hcz9_0
           try clear hcz9_1
           try clear hfz12_0
           try clear hfz12_1
           try clear hfz12_2
           try clear hfz12_3
           try clear hfz12_4
           try clear hfz12_5
           try clear hfz12_6
           try clear hfz16_0
           try clear hfz16_1
           try clear hfz21_0
           try clear hfz21_1
           try clear hfz21_2
           try clear hfz21_3
           try clear hfz21_4
           try clear hfz21_5
           try clear hfz21_6
           try clear hfz23_0
           try clear hfz23_1
           try clear hfz27_0
           try clear hfz27_1
           try clear hfz27_2
           try clear hfz27_3
           try clear hfz27_4
           try clear hfz27_5
           try clear hfz27_6
           try clear hfz33_0
           try clear hfz33_1
           try clear hfz33_2
           try clear hfz33_3
           try clear hfz33_4
           try clear hfz33_5
           try clear hfz33_6
           try clear hfz36_0
           try clear hfz36_1
           try clear hfz36_2
           try clear hfz36_3
           try clear hfz36_4
           try clear hfz36_5
           try clear hfz36_6
           try clear hfz7_0
           try clear hfz7_1
           try clear hfz9_0
           try clear hfz9_1
           try clear p2
           try clear p6
           obtain ⟨x6_4, x188001_4, rfl, HA, HK4, BK183, BK184, BK187, HB⟩ := hrel
           cases gk with
           | zero => exact absurd HA.out (by simp [foliotref02_OfDate.l1])
           | succ k4 =>
            have H := HA.out
            clear HA
            simp only [foliotref02_OfDate.l1] at H
            replace H := Option.bind_eq_some_iff.mp H
            obtain ⟨t190, A370, H⟩ := H
            replace H : (if x6_4 ≥ t190 then ((foliotref02_month.f k4 x188000_3 x188001_4).bind fun t191 => (foliotref02_OfDate.l1 k4 (wrap64 (x6_4 - t191)) x188000_3 (wrap64 (x188001_4 + 1)) 0 (Int.tmod (wrap64 (Int.tdiv (wrap64 ((wrap64 ((wrap64 (a0_0 * 4294967296)) + (wrap64 (a0_1 / 4294967296)))) + (wrap64 (t185 * 86400)))) 3600)) 24) (Int.tmod (wrap64 (Int.tdiv (wrap64 ((wrap64 ((wrap64 (a0_0 * 4294967296)) + (wrap64 (a0_1 / 4294967296)))) + (wrap64 (t185 * 86400)))) 60)) 60) (Int.tmod (wrap64 ((wrap64 ((wrap64 (a0_0 * 4294967296)) + (wrap64 (a0_1 / 4294967296)))) + (wrap64 (t185 * 86400)))) 60) ((a0_1) % 4294967296))) else (some (x188000_3, x188001_4, wrap64 (x6_4 + 1), (Int.tmod (wrap64 (Int.tdiv (wrap64 ((wrap64 ((wrap64 (a0_0 * 4294967296)) + (wrap64 (a0_1 / 4294967296)))) + (wrap64 (t185 * 86400)))) 3600)) 24), (Int.tmod (wrap64 (Int.tdiv (wrap64 ((wrap64 ((wrap64 (a0_0 * 4294967296)) + (wrap64 (a0_1 / 4294967296)))) + (wrap64 (t185 * 86400)))) 60)) 60), (Int.tmod (wrap64 ((wrap64 ((wrap64 (a0_0 * 4294967296)) + (wrap64 (a0_1 / 4294967296)))) + (wrap64 (t185 * 86400)))) 60), ((a0_1) % 4294967296), 0))) = some (r1, r2, r3, r4, r5, r6, r7, r8) := H
            have A37 := Aside0.mk A370
            clear A370
            by_cases c38 : x6_4 ≥ t190
            ·rw [if_pos c38] at H
             have c38b0 : decide (t190 ≤ x6_4) = true := decide_eq_true c38
             clear c38
             replace H := Option.bind_eq_some_iff.mp H
             obtain ⟨t191, A390, H⟩ := H
             replace H : (foliotref02_OfDate.l1 k4 (wrap64 (x6_4 - t191)) x188000_3 (wrap64 (x188001_4 + 1)) 0 (Int.tmod (wrap64 (Int.tdiv (wrap64 ((wrap64 ((wrap64 (a0_0 * 4294967296)) + (wrap64 (a0_1 / 4294967296)))) + (wrap64 (t185 * 86400)))) 3600)) 24) (Int.tmod (wrap64 (Int.tdiv (wrap64 ((wrap64 ((wrap64 (a0_0 * 4294967296)) + (wrap64 (a0_1 / 4294967296)))) + (wrap64 (t185 * 86400)))) 60)) 60) (Int.tmod (wrap64 ((wrap64 ((wrap64 (a0_0 * 4294967296)) + (wrap64 (a0_1 / 4294967296)))) + (wrap64 (t185 * 86400)))) 60) ((a0_1) % 4294967296)) = some (r1, r2, r3, r4, r5, r6, r7, r8) := H
             have A39 := Aside0.mk A390
             clear A390
             have e_one : t191 = t190 := Option.some.inj (A39.out.symm.trans A37.out)
             rw [e_one] at H
             clear e_one
             have H' := Aside0.mk H
             clear H
             have hnb40 := NB187_183.out
             have hnc40 := NB183_187.out
             have hnb41 := NB187_184.out
             have hnc41 := NB184_187.out
             have hcz42_0 : wr.cell? ⟨gb187, 0, none⟩ = some (.int .i64 x188000_3) := (blk_cell BK187.out 0).trans rfl
             have hcz42_1 : wr.cell? ⟨gb187, 1, none⟩ = some (.int .i64 x188001_4) := (blk_cell BK187.out 1).trans rfl
             have hcz42_2 : wr.cell? ⟨gb187, 2, none⟩ = some (.int .i64 0) := (blk_cell BK187.out 2).trans rfl
             have hcz42_3 : wr.cell? ⟨gb187, 3, none⟩ = some (.int .i64 (Int.tmod (wrap64 (Int.tdiv (wrap64 ((wrap64 ((wrap64 (a0_0 * 4294967296)) + (wrap64 (a0_1 / 4294967296)))) + (wrap64 (t185 * 86400)))) 3600)) 24)) := (blk_cell BK187.out 3).trans rfl
             have hcz42_4 : wr.cell? ⟨gb187, 4, none⟩ = some (.int .i64 (Int.tmod (wrap64 (Int.tdiv (wrap64 ((wrap64 ((wrap64 (a0_0 * 4294967296)) + (wrap64 (a0_1 / 4294967296)))) + (wrap64 (t185 * 86400)))) 60)) 60)) := (blk_cell BK187.out 4).trans rfl
             have hcz42_5 : wr.cell? ⟨gb187, 5, none⟩ = some (.int .i64 (Int.tmod (wrap64 ((wrap64 ((wrap64 (a0_0 * 4294967296)) + (wrap64 (a0_1 / 4294967296)))) + (wrap64 (t185 * 86400)))) 60)) := (blk_cell BK187.out 5).trans rfl
             have hcz42_6 : wr.cell? ⟨gb187, 6, none⟩ = some (.int .u32 ((a0_1) % 4294967296)) := (blk_cell BK187.out 6).trans rfl
             have hfz42_0 := blk_frozen BK187.out 0
             have hfz42_1 := blk_frozen BK187.out 1
             have hfz42_2 := blk_frozen BK187.out 2
             have hfz42_3 := blk_frozen BK187.out 3
             have hfz42_4 := blk_frozen BK187.out 4
             have hfz42_5 := blk_frozen BK187.out 5
             have hfz42_6 := blk_frozen BK187.out 6
             go_wp2_with (first | (go_at_call 37; (with_reducible refine (foliotref02_month.calls k4 x188000_3 x188001_4 t190 _ A37.out).mono ?_); rintro e w' ⟨rfl, ⟨nd, rfl⟩⟩; (try first | exact ⟨rfl, _, World.drewN_drewN _ _ _⟩ | exact ⟨rfl, _, Eq.trans (World.drewN_drewN _ _ _) (congrArg (World.drewN _) (Nat.add_assoc _ _ _))⟩)) | (go_at_call 37; (with_reducible refine (foliotref02_month.calls k4 x188000_3 x188001_4 t191 _ A39.out).mono ?_); rintro e w' ⟨rfl, ⟨nd, rfl⟩⟩; (try first | exact ⟨rfl, _, World.drewN_drewN _ _ _⟩ | exact ⟨rfl, _, Eq.trans (World.drewN_drewN _ _ _) (congrArg (World.drewN _) (Nat.add_assoc _ _ _))⟩)))
             repeat (go_quiet (first | (go_at_call 37; (with_reducible refine (foliotref02_month.calls k4 x188000_3 x188001_4 t190 _ A37.out).mono ?_); rintro e w' ⟨rfl, ⟨nd, rfl⟩⟩; (try first | exact ⟨rfl, _, World.drewN_drewN _ _ _⟩ | exact ⟨rfl, _, Eq.trans (World.drewN_drewN _ _ _) (congrArg (World.drewN _) (Nat.add_assoc _ _ _))⟩)) | (go_at_call 37; (with_reducible refine (foliotref02_month.calls k4 x188000_3 x188001_4 t191 _ A39.out).mono ?_); rintro e w' ⟨rfl, ⟨nd, rfl⟩⟩; (try first | exact ⟨rfl, _, World.drewN_drewN _ _ _⟩ | exact ⟨rfl, _, Eq.trans (World.drewN_drewN _ _ _) (congrArg (World.drewN _) (Nat.add_assoc _ _ _))⟩))); try go_wp2_with (first | (go_at_call 37; (with_reducible refine (foliotref02_month.calls k4 x188000_3 x188001_4 t190 _ A37.out).mono ?_); rintro e w' ⟨rfl, ⟨nd, rfl⟩⟩; (try first | exact ⟨rfl, _, World.drewN_drewN _ _ _⟩ | exact ⟨rfl, _, Eq.trans (World.drewN_drewN _ _ _) (congrArg (World.drewN _) (Nat.add_assoc _ _ _))⟩)) | (go_at_call 37; (with_reducible refine (foliotref02_month.calls k4 x188000_3 x188001_4 t191 _ A39.out).mono ?_); rintro e w' ⟨rfl, ⟨nd, rfl⟩⟩; (try first | exact ⟨rfl, _, World.drewN_drewN _ _ _⟩ | exact ⟨rfl, _, Eq.trans (World.drewN_drewN _ _ _) (congrArg (World.drewN _) (Nat.add_assoc _ _ _))⟩))))
             go_roundg k4
             case measure => have := HJ1.out; have := HJ13.out; have := HK3.out; have := HK4.out; omega
             case rel => exact ⟨(wrap64 (x6_4 - t190)), (wrap64 (x188001_4 + 1)), (by first | rfl | (simp; done) | (simp [*]; done)), H', ⟨by have := HJ1.out; have := HJ13.out; have := HK3.out; have := HK4.out; omega⟩, ⟨by (with_reducible repeat (first | refine blk_drewN ?_ _ | refine blk_drew ?_ | refine blk_alloc ?_ _)); refine blk_far ?_ NB183_187.out _; (with_reducible repeat (first | refine blk_drewN ?_ _ | refine blk_drew ?_ | refine blk_alloc ?_ _)); exact BK183.out⟩, ⟨by (with_reducible repeat (first | refine blk_drewN ?_ _ | refine blk_drew ?_ | refine blk_alloc ?_ _)); refine blk_far ?_ NB184_187.out _; (with_reducible repeat (first | refine blk_drewN ?_ _ | refine blk_drew ?_ | refine blk_alloc ?_ _)); exact BK184.out⟩, ⟨by (with_reducible repeat (first | refine blk_drewN ?_ _ | refine blk_drew ?_ | refine blk_alloc ?_ _)); refine blk_put (cs := #[.int .i64 x188000_3, .int .i64 x188001_4, .int .i64 0, .int .i64 (Int.tmod (wrap64 (Int.tdiv (wrap64 ((wrap64 ((wrap64 (a0_0 * 4294967296)) + (wrap64 (a0_1 / 4294967296)))) + (wrap64 (t185 * 86400)))) 3600)) 24), .int .i64 (Int.tmod (wrap64 (Int.tdiv (wrap64 ((wrap64 ((wrap64 (a0_0 * 4294967296)) + (wrap64 (a0_1 / 4294967296)))) + (wrap64 (t185 * 86400)))) 60)) 60), .int .i64 (Int.tmod (wrap64 ((wrap64 ((wrap64 (a0_0 * 4294967296)) + (wrap64 (a0_1 / 4294967296)))) + (wrap64 (t185 * 86400)))) 60), .int .u32 ((a0_1) % 4294967296)]) ?_ 1 _ rfl; (with_reducible repeat (first | refine blk_drewN ?_ _ | refine blk_drew ?_ | refine blk_alloc ?_ _)); exact BK187.out⟩, ⟨by repeat (first | (with_reducible first | exact HB.out | apply below_alloc | apply pw_below_drewN | apply below_drew1 | refine below_set ?_ GE183.out | refine below_set ?_ GE184.out | refine below_set ?_ GE187.out) | exact HB.out)⟩⟩
            ·rw [if_neg c38] at H
             have c38b0 : decide (t190 ≤ x6_4) = false := decide_eq_false c38
             clear c38
             simp only [Option.some.injEq, Prod.mk.injEq] at H
             obtain ⟨rfl, rfl, rfl, rfl, rfl, rfl, rfl, rfl⟩ := H
             have hnb43 := NB187_183.out
             have hnc43 := NB183_187.out
             have hnb44 := NB187_184.out
             have hnc44 := NB184_187.out
             have hcz45_0 : wr.cell? ⟨gb187, 0, none⟩ = some (.int .i64 x188000_3) := (blk_cell BK187.out 0).trans rfl
             have hcz45_1 : wr.cell? ⟨gb187, 1, none⟩ = some (.int .i64 x188001_4) := (blk_cell BK187.out 1).trans rfl
             have hcz45_2 : wr.cell? ⟨gb187, 2, none⟩ = some (.int .i64 0) := (blk_cell BK187.out 2).trans rfl
             have hcz45_3 : wr.cell? ⟨gb187, 3, none⟩ = some (.int .i64 (Int.tmod (wrap64 (Int.tdiv (wrap64 ((wrap64 ((wrap64 (a0_0 * 4294967296)) + (wrap64 (a0_1 / 4294967296)))) + (wrap64 (t185 * 86400)))) 3600)) 24)) := (blk_cell BK187.out 3).trans rfl
             have hcz45_4 : wr.cell? ⟨gb187, 4, none⟩ = some (.int .i64 (Int.tmod (wrap64 (Int.tdiv (wrap64 ((wrap64 ((wrap64 (a0_0 * 4294967296)) + (wrap64 (a0_1 / 4294967296)))) + (wrap64 (t185 * 86400)))) 60)) 60)) := (blk_cell BK187.out 4).trans rfl
             have hcz45_5 : wr.cell? ⟨gb187, 5, none⟩ = some (.int .i64 (Int.tmod (wrap64 ((wrap64 ((wrap64 (a0_0 * 4294967296)) + (wrap64 (a0_1 / 4294967296)))) + (wrap64 (t185 * 86400)))) 60)) := (blk_cell BK187.out 5).trans rfl
             have hcz45_6 : wr.cell? ⟨gb187, 6, none⟩ = some (.int .u32 ((a0_1) % 4294967296)) := (blk_cell BK187.out 6).trans rfl
             have hfz45_0 := blk_frozen BK187.out 0
             have hfz45_1 := blk_frozen BK187.out 1
             have hfz45_2 := blk_frozen BK187.out 2
             have hfz45_3 := blk_frozen BK187.out 3
             have hfz45_4 := blk_frozen BK187.out 4
             have hfz45_5 := blk_frozen BK187.out 5
             have hfz45_6 := blk_frozen BK187.out 6
             go_wp2_with (first | (go_at_call 37; (with_reducible refine (foliotref02_month.calls k4 x188000_3 x188001_4 t190 _ A37.out).mono ?_); rintro e w' ⟨rfl, ⟨nd, rfl⟩⟩; (try first | exact ⟨rfl, _, World.drewN_drewN _ _ _⟩ | exact ⟨rfl, _, Eq.trans (World.drewN_drewN _ _ _) (congrArg (World.drewN _) (Nat.add_assoc _ _ _))⟩); have hnb46 := NB184_183.out; have hnc46 := NB183_184.out; have hcz47_0 : wr.cell? ⟨gb184, 0, none⟩ = some (.int .i64 0) := (blk_cell BK184.out 0).trans rfl; have hcz47_1 : wr.cell? ⟨gb184, 1, none⟩ = some (.int .i64 0) := (blk_cell BK184.out 1).trans rfl; have hcz47_2 : wr.cell? ⟨gb184, 2, none⟩ = some (.int .i64 0) := (blk_cell BK184.out 2).trans rfl; have hcz47_3 : wr.cell? ⟨gb184, 3, none⟩ = some (.int .i64 0) := (blk_cell BK184.out 3).trans rfl; have hcz47_4 : wr.cell? ⟨gb184, 4, none⟩ = some (.int .i64 0) := (blk_cell BK184.out 4).trans rfl; have hcz47_5 : wr.cell? ⟨gb184, 5, none⟩ = some (.int .i64 0) := (blk_cell BK184.out 5).trans rfl; have hcz47_6 : wr.cell? ⟨gb184, 6, none⟩ = some (.int .u32 0) := (blk_cell BK184.out 6).trans rfl; have hfz47_0 := blk_frozen BK184.out 0; have hfz47_1 := blk_frozen BK184.out 1; have hfz47_2 := blk_frozen BK184.out 2; have hfz47_3 := blk_frozen BK184.out 3; have hfz47_4 := blk_frozen BK184.out 4; have hfz47_5 := blk_frozen BK184.out 5; have hfz47_6 := blk_frozen BK184.out 6))
             repeat (go_quiet (first | (go_at_call 37; (with_reducible refine (foliotref02_month.calls k4 x188000_3 x188001_4 t190 _ A37.out).mono ?_); rintro e w' ⟨rfl, ⟨nd, rfl⟩⟩; (try first | exact ⟨rfl, _, World.drewN_drewN _ _ _⟩ | exact ⟨rfl, _, Eq.trans (World.drewN_drewN _ _ _) (congrArg (World.drewN _) (Nat.add_assoc _ _ _))⟩); have hnb46 := NB184_183.out; have hnc46 := NB183_184.out; have hcz47_0 : wr.cell? ⟨gb184, 0, none⟩ = some (.int .i64 0) := (blk_cell BK184.out 0).trans rfl; have hcz47_1 : wr.cell? ⟨gb184, 1, none⟩ = some (.int .i64 0) := (blk_cell BK184.out 1).trans rfl; have hcz47_2 : wr.cell? ⟨gb184, 2, none⟩ = some (.int .i64 0) := (blk_cell BK184.out 2).trans rfl; have hcz47_3 : wr.cell? ⟨gb184, 3, none⟩ = some (.int .i64 0) := (blk_cell BK184.out 3).trans rfl; have hcz47_4 : wr.cell? ⟨gb184, 4, none⟩ = some (.int .i64 0) := (blk_cell BK184.out 4).trans rfl; have hcz47_5 : wr.cell? ⟨gb184, 5, none⟩ = some (.int .i64 0) := (blk_cell BK184.out 5).trans rfl; have hcz47_6 : wr.cell? ⟨gb184, 6, none⟩ = some (.int .u32 0) := (blk_cell BK184.out 6).trans rfl; have hfz47_0 := blk_frozen BK184.out 0; have hfz47_1 := blk_frozen BK184.out 1; have hfz47_2 := blk_frozen BK184.out 2; have hfz47_3 := blk_frozen BK184.out 3; have hfz47_4 := blk_frozen BK184.out 4; have hfz47_5 := blk_frozen BK184.out 5; have hfz47_6 := blk_frozen BK184.out 6)); try go_wp2_with (first | (go_at_call 37; (with_reducible refine (foliotref02_month.calls k4 x188000_3 x188001_4 t190 _ A37.out).mono ?_); rintro e w' ⟨rfl, ⟨nd, rfl⟩⟩; (try first | exact ⟨rfl, _, World.drewN_drewN _ _ _⟩ | exact ⟨rfl, _, Eq.trans (World.drewN_drewN _ _ _) (congrArg (World.drewN _) (Nat.add_assoc _ _ _))⟩); have hnb46 := NB184_183.out; have hnc46 := NB183_184.out; have hcz47_0 : wr.cell? ⟨gb184, 0, none⟩ = some (.int .i64 0) := (blk_cell BK184.out 0).trans rfl; have hcz47_1 : wr.cell? ⟨gb184, 1, none⟩ = some (.int .i64 0) := (blk_cell BK184.out 1).trans rfl; have hcz47_2 : wr.cell? ⟨gb184, 2, none⟩ = some (.int .i64 0) := (blk_cell BK184.out 2).trans rfl; have hcz47_3 : wr.cell? ⟨gb184, 3, none⟩ = some (.int .i64 0) := (blk_cell BK184.out 3).trans rfl; have hcz47_4 : wr.cell? ⟨gb184, 4, none⟩ = some (.int .i64 0) := (blk_cell BK184.out 4).trans rfl; have hcz47_5 : wr.cell? ⟨gb184, 5, none⟩ = some (.int .i64 0) := (blk_cell BK184.out 5).trans rfl; have hcz47_6 : wr.cell? ⟨gb184, 6, none⟩ = some (.int .u32 0) := (blk_cell BK184.out 6).trans rfl; have hfz47_0 := blk_frozen BK184.out 0; have hfz47_1 := blk_frozen BK184.out 1; have hfz47_2 := blk_frozen BK184.out 2; have hfz47_3 := blk_frozen BK184.out 3; have hfz47_4 := blk_frozen BK184.out 4; have hfz47_5 := blk_frozen BK184.out 5; have hfz47_6 := blk_frozen BK184.out 6)))
             refine bodyPost_ret (results_ct rfl _ _ gb184 33 #[.int .i64 x188000_3, .int .i64 x188001_4, .int .i64 (wrap64 (x6_4 + 1)), .int .i64 (Int.tmod (wrap64 (Int.tdiv (wrap64 ((wrap64 ((wrap64 (a0_0 * 4294967296)) + (wrap64 (a0_1 / 4294967296)))) + (wrap64 (t185 * 86400)))) 3600)) 24), .int .i64 (Int.tmod (wrap64 (Int.tdiv (wrap64 ((wrap64 ((wrap64 (a0_0 * 4294967296)) + (wrap64 (a0_1 / 4294967296)))) + (wrap64 (t185 * 86400)))) 60)) 60), .int .i64 (Int.tmod (wrap64 ((wrap64 ((wrap64 (a0_0 * 4294967296)) + (wrap64 (a0_1 / 4294967296)))) + (wrap64 (t185 * 86400)))) 60), .int .u32 ((a0_1) % 4294967296)] (0, 0) _ rfl (by (with_reducible repeat (first | refine blk_drewN ?_ _ | refine blk_drew ?_ | refine blk_alloc ?_ _)); refine blk_put (cs := #[.int .i64 x188000_3, .int .i64 x188001_4, .int .i64 (wrap64 (x6_4 + 1)), .int .i64 (Int.tmod (wrap64 (Int.tdiv (wrap64 ((wrap64 ((wrap64 (a0_0 * 4294967296)) + (wrap64 (a0_1 / 4294967296)))) + (wrap64 (t185 * 86400)))) 3600)) 24), .int .i64 (Int.tmod (wrap64 (Int.tdiv (wrap64 ((wrap64 ((wrap64 (a0_0 * 4294967296)) + (wrap64 (a0_1 / 4294967296)))) + (wrap64 (t185 * 86400)))) 60)) 60), .int .i64 (Int.tmod (wrap64 ((wrap64 ((wrap64 (a0_0 * 4294967296)) + (wrap64 (a0_1 / 4294967296)))) + (wrap64 (t185 * 86400)))) 60), .int .u32 0]) ?_ 6 _ rfl; (with_reducible repeat (first | refine blk_drewN ?_ _ | refine blk_drew ?_ | refine blk_alloc ?_ _)); refine blk_put (cs := #[.int .i64 x188000_3, .int .i64 x188001_4, .int .i64 (wrap64 (x6_4 + 1)), .int .i64 (Int.tmod (wrap64 (Int.tdiv (wrap64 ((wrap64 ((wrap64 (a0_0 * 4294967296)) + (wrap64 (a0_1 / 4294967296)))) + (wrap64 (t185 * 86400)))) 3600)) 24), .int .i64 (Int.tmod (wrap64 (Int.tdiv (wrap64 ((wrap64 ((wrap64 (a0_0 * 4294967296)) + (wrap64 (a0_1 / 4294967296)))) + (wrap64 (t185 * 86400)))) 60)) 60), .int .i64 0, .int .u32 0]) ?_ 5 _ rfl; (with_reducible repeat (first | refine blk_drewN ?_ _ | refine blk_drew ?_ | refine blk_alloc ?_ _)); refine blk_put (cs := #[.int .i64 x188000_3, .int .i64 x188001_4, .int .i64 (wrap64 (x6_4 + 1)), .int .i64 (Int.tmod (wrap64 (Int.tdiv (wrap64 ((wrap64 ((wrap64 (a0_0 * 4294967296)) + (wrap64 (a0_1 / 4294967296)))) + (wrap64 (t185 * 86400)))) 3600)) 24), .int .i64 0, .int .i64 0, .int .u32 0]) ?_ 4 _ rfl; (with_reducible repeat (first | refine blk_drewN ?_ _ | refine blk_drew ?_ | refine blk_alloc ?_ _)); refine blk_put (cs := #[.int .i64 x188000_3, .int .i64 x188001_4, .int .i64 (wrap64 (x6_4 + 1)), .int .i64 0, .int .i64 0, .int .i64 0, .int .u32 0]) ?_ 3 _ rfl; (with_reducible repeat (first | refine blk_drewN ?_ _ | refine blk_drew ?_ | refine blk_alloc ?_ _)); refine blk_put (cs := #[.int .i64 x188000_3, .int .i64 x188001_4, .int .i64 0, .int .i64 0, .int .i64 0, .int .i64 0, .int .u32 0]) ?_ 2 _ rfl; (with_reducible repeat (first | refine blk_drewN ?_ _ | refine blk_drew ?_ | refine blk_alloc ?_ _)); refine blk_put (cs := #[.int .i64 x188000_3, .int .i64 0, .int .i64 0, .int .i64 0, .int .i64 0, .int .i64 0, .int .u32 0]) ?_ 1 _ rfl; (with_reducible repeat (first | refine blk_drewN ?_ _ | refine blk_drew ?_ | refine blk_alloc ?_ _)); refine blk_put (cs := #[.int .i64 0, .int .i64 0, .int .i64 0, .int .i64 0, .int .i64 0, .int .i64 0, .int .u32 0]) ?_ 0 _ rfl; (with_reducible repeat (first | refine blk_drewN ?_ _ | refine blk_drew ?_ | refine blk_alloc ?_ _)); refine blk_far ?_ NB184_187.out _; (with_reducible repeat (first | refine blk_drewN ?_ _ | refine blk_drew ?_ | refine blk_alloc ?_ _)); exact BK184.out) Try.underlying33 rfl (by kernel_rfl)) rfl ?_
             exact ⟨by first | rfl | (simp [errW_none, errW_some] <;> rfl) | (simp [*, errW_none, errW_some] <;> rfl), by repeat (first | (with_reducible first | exact HB.out | apply below_alloc | apply pw_below_drewN | apply below_drew1 | refine below_set ?_ GE183.out | refine below_set ?_ GE184.out | refine below_set ?_ GE187.out) | exact HB.out)⟩

end Go.Proofs.Ytbondhnhiinlbaa.Pr
