/- The machine's call of stamp.ToDate. Printed by gen_hc_stamp.py. -/
import Derived.Test.YtbondhnhiinlbaaHb0
import Derived.Deep.RegionWith
import Derived.Laws.BitsAllLaws
set_option linter.unusedVariables false
set_option linter.unusedSimpArgs false
namespace Go.Proofs.Ytbondhnhiinlbaa.Pr
open Go.RowKit Go.Proofs.YtbondhnhiinlbaaW.PrintWords Go.Proofs.YtbondhnhiinlbaaW.PrintLast Go.Proofs.YtbondhnhiinlbaaW.PrintMore
theorem alloc_drewN2 (w : World) (n : Nat) (o : Obj) : (w.drewN n).alloc o = (w.alloc o).drewN n := by induction n with | zero => rfl | succ n ih => rw [show w.drewN (n + 1) = (w.drewN n).drew from by simp, World.alloc_drew, ih]; simp
theorem setCell_drewN2 (w : World) (n : Nat) (a : Addr) (v : Value) : (w.drewN n).setCell a v = (w.setCell a v).drewN n := by induction n with | zero => rfl | succ n ih => rw [show w.drewN (n + 1) = (w.drewN n).drew from by simp, World.setCell_drew, ih]; simp
attribute [local go_sem] alloc_drewN2 setCell_drewN2
set_option maxHeartbeats 2000000 in
set_option maxRecDepth 100000 in
theorem todate_bad (a0_0 a0_1 a0_2 a0_3 a0_4 a0_5 a0_6 : Int) (w : World) (h : badDay a0_0 a0_1 a0_2 a0_3 a0_4 a0_5 = true) :
    Calls Try.prog 17 #[.agg #[.int .i64 a0_0, .int .i64 a0_1, .int .i64 a0_2, .int .i64 a0_3, .int .i64 a0_4, .int .i64 a0_5, .int .u32 a0_6]] w fun e w' => e = .returned (.tuple #[.agg #[.int .i64 0, .int .u64 0], .int .i64 20]) ∧ Below w.heap.size w w' := by
  have hu25 := Try.underlying25
  have hu28 := Try.underlying28
  by_cases c0 : a0_0 < 1
  · have d0 : decide (a0_0 < 1) = true := decide_eq_true (by omega)
    clear h c0
    go_enter Try.func17, Try.ntmps17
    go_wp2
    exact bodyPost_ret (by simp [results, Try.results17, go_sem]) rfl ⟨rfl, below_alloc (below_alloc (Below.refl _ _) _) _⟩
  have d0 : decide (a0_0 < 1) = false := decide_eq_false (by omega)
  by_cases c1 : a0_0 > 2100
  · have d1 : decide (2100 < a0_0) = true := decide_eq_true (by omega)
    clear h c0 c1
    go_enter Try.func17, Try.ntmps17
    go_wp2
    exact bodyPost_ret (by simp [results, Try.results17, go_sem]) rfl ⟨rfl, below_alloc (below_alloc (Below.refl _ _) _) _⟩
  have d1 : decide (2100 < a0_0) = false := decide_eq_false (by omega)
  by_cases c2 : a0_1 < 1
  · have d2 : decide (a0_1 < 1) = true := decide_eq_true (by omega)
    clear h c0 c1 c2
    go_enter Try.func17, Try.ntmps17
    go_wp2
    exact bodyPost_ret (by simp [results, Try.results17, go_sem]) rfl ⟨rfl, below_alloc (below_alloc (Below.refl _ _) _) _⟩
  have d2 : decide (a0_1 < 1) = false := decide_eq_false (by omega)
  by_cases c3 : a0_1 > 12
  · have d3 : decide (12 < a0_1) = true := decide_eq_true (by omega)
    clear h c0 c1 c2 c3
    go_enter Try.func17, Try.ntmps17
    go_wp2
    exact bodyPost_ret (by simp [results, Try.results17, go_sem]) rfl ⟨rfl, below_alloc (below_alloc (Below.refl _ _) _) _⟩
  have d3 : decide (12 < a0_1) = false := decide_eq_false (by omega)
  by_cases c4 : a0_2 < 1
  · have d4 : decide (a0_2 < 1) = true := decide_eq_true (by omega)
    clear h c0 c1 c2 c3 c4
    go_enter Try.func17, Try.ntmps17
    go_wp2
    exact bodyPost_ret (by simp [results, Try.results17, go_sem]) rfl ⟨rfl, below_alloc (below_alloc (Below.refl _ _) _) _⟩
  have d4 : decide (a0_2 < 1) = false := decide_eq_false (by omega)
  by_cases c5 : a0_3 < 0
  · have d5 : decide (a0_3 < 0) = true := decide_eq_true (by omega)
    clear h c0 c1 c2 c3 c4 c5
    go_enter Try.func17, Try.ntmps17
    go_wp2
    exact bodyPost_ret (by simp [results, Try.results17, go_sem]) rfl ⟨rfl, below_alloc (below_alloc (Below.refl _ _) _) _⟩
  have d5 : decide (a0_3 < 0) = false := decide_eq_false (by omega)
  by_cases c6 : a0_3 > 23
  · have d6 : decide (23 < a0_3) = true := decide_eq_true (by omega)
    clear h c0 c1 c2 c3 c4 c5 c6
    go_enter Try.func17, Try.ntmps17
    go_wp2
    exact bodyPost_ret (by simp [results, Try.results17, go_sem]) rfl ⟨rfl, below_alloc (below_alloc (Below.refl _ _) _) _⟩
  have d6 : decide (23 < a0_3) = false := decide_eq_false (by omega)
  by_cases c7 : a0_4 < 0
  · have d7 : decide (a0_4 < 0) = true := decide_eq_true (by omega)
    clear h c0 c1 c2 c3 c4 c5 c6 c7
    go_enter Try.func17, Try.ntmps17
    go_wp2
    exact bodyPost_ret (by simp [results, Try.results17, go_sem]) rfl ⟨rfl, below_alloc (below_alloc (Below.refl _ _) _) _⟩
  have d7 : decide (a0_4 < 0) = false := decide_eq_false (by omega)
  by_cases c8 : a0_4 > 59
  · have d8 : decide (59 < a0_4) = true := decide_eq_true (by omega)
    clear h c0 c1 c2 c3 c4 c5 c6 c7 c8
    go_enter Try.func17, Try.ntmps17
    go_wp2
    exact bodyPost_ret (by simp [results, Try.results17, go_sem]) rfl ⟨rfl, below_alloc (below_alloc (Below.refl _ _) _) _⟩
  have d8 : decide (59 < a0_4) = false := decide_eq_false (by omega)
  by_cases c9 : a0_5 < 0
  · have d9 : decide (a0_5 < 0) = true := decide_eq_true (by omega)
    clear h c0 c1 c2 c3 c4 c5 c6 c7 c8 c9
    go_enter Try.func17, Try.ntmps17
    go_wp2
    exact bodyPost_ret (by simp [results, Try.results17, go_sem]) rfl ⟨rfl, below_alloc (below_alloc (Below.refl _ _) _) _⟩
  have d9 : decide (a0_5 < 0) = false := decide_eq_false (by omega)
  by_cases c10 : a0_5 > 59
  · have d10 : decide (59 < a0_5) = true := decide_eq_true (by omega)
    clear h c0 c1 c2 c3 c4 c5 c6 c7 c8 c9 c10
    go_enter Try.func17, Try.ntmps17
    go_wp2
    exact bodyPost_ret (by simp [results, Try.results17, go_sem]) rfl ⟨rfl, below_alloc (below_alloc (Below.refl _ _) _) _⟩
  have d10 : decide (59 < a0_5) = false := decide_eq_false (by omega)
  exact absurd h (by unfold badDay; simp; omega)
end Go.Proofs.Ytbondhnhiinlbaa.Pr
