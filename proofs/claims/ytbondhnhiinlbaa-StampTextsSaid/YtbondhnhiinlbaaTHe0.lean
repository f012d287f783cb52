/- The machine's call of the reference's ToDate where it refuses. Printed by gen_he_stamp.py. -/
import Derived.Test.YtbondhnhiinlbaaTK0
import Derived.Deep.RegionWith
set_option linter.unusedVariables false
set_option linter.unusedSimpArgs false
namespace Go.Proofs.Ytbondhnhiinlbaa.Pr
open Go.RowKit Go.Proofs.YtbondhnhiinlbaaW.PrintWords Go.Proofs.YtbondhnhiinlbaaW.PrintLast Go.Proofs.YtbondhnhiinlbaaW.PrintMore
set_option maxHeartbeats 4000000 in
set_option maxRecDepth 100000 in
theorem reftodate_bad (a0_0 a0_1 a0_2 a0_3 a0_4 a0_5 a0_6 n : Int) (k : Nat) (w : World) (hn : ¬ (a0_0 < 1 ∨ a0_0 > 2100 ∨ a0_1 < 1 ∨ a0_1 > 12 ∨ a0_2 < 1) → foliotref02_month.f k a0_0 a0_1 = some n)
    (h : badDay a0_0 a0_1 a0_2 a0_3 a0_4 a0_5 = true ∨ a0_2 > n) :
    Calls Try.prog 18 #[.agg #[.int .i64 a0_0, .int .i64 a0_1, .int .i64 a0_2, .int .i64 a0_3, .int .i64 a0_4, .int .i64 a0_5, .int .u32 a0_6]] w fun e w' => e = .returned (.tuple #[.agg #[.int .i64 0, .int .u64 0], .int .i64 20]) ∧ Below w.heap.size w w' := by
  have hu33 := Try.underlying33
  have hu36 := Try.underlying36
  by_cases c0 : a0_0 < 1
  · have d0 : decide (a0_0 < 1) = true := decide_eq_true (by omega)
    clear hn h c0
    go_enter Try.func18, Try.ntmps18
    go_wp2
    go_quiet (fail)
    go_wp2
    exact bodyPost_ret (by simp [results, Try.results18, go_sem]) rfl ⟨rfl, by repeat (first | exact Below.refl _ _ | apply pw_below_drewN | apply below_drew1 | apply below_alloc | refine Below.setCell ?_ (by simp) _)⟩
  have d0 : decide (a0_0 < 1) = false := decide_eq_false (by omega)
  by_cases c1 : a0_0 > 2100
  · have d1 : decide (2100 < a0_0) = true := decide_eq_true (by omega)
    clear hn h c0 c1
    go_enter Try.func18, Try.ntmps18
    go_wp2
    go_quiet (fail)
    go_wp2
    exact bodyPost_ret (by simp [results, Try.results18, go_sem]) rfl ⟨rfl, by repeat (first | exact Below.refl _ _ | apply pw_below_drewN | apply below_drew1 | apply below_alloc | refine Below.setCell ?_ (by simp) _)⟩
  have d1 : decide (2100 < a0_0) = false := decide_eq_false (by omega)
  by_cases c2 : a0_1 < 1
  · have d2 : decide (a0_1 < 1) = true := decide_eq_true (by omega)
    clear hn h c0 c1 c2
    go_enter Try.func18, Try.ntmps18
    go_wp2
    go_quiet (fail)
    go_wp2
    exact bodyPost_ret (by simp [results, Try.results18, go_sem]) rfl ⟨rfl, by repeat (first | exact Below.refl _ _ | apply pw_below_drewN | apply below_drew1 | apply below_alloc | refine Below.setCell ?_ (by simp) _)⟩
  have d2 : decide (a0_1 < 1) = false := decide_eq_false (by omega)
  by_cases c3 : a0_1 > 12
  · have d3 : decide (12 < a0_1) = true := decide_eq_true (by omega)
    clear hn h c0 c1 c2 c3
    go_enter Try.func18, Try.ntmps18
    go_wp2
    go_quiet (fail)
    go_wp2
    exact bodyPost_ret (by simp [results, Try.results18, go_sem]) rfl ⟨rfl, by repeat (first | exact Below.refl _ _ | apply pw_below_drewN | apply below_drew1 | apply below_alloc | refine Below.setCell ?_ (by simp) _)⟩
  have d3 : decide (12 < a0_1) = false := decide_eq_false (by omega)
  by_cases c4 : a0_2 < 1
  · have d4 : decide (a0_2 < 1) = true := decide_eq_true (by omega)
    clear hn h c0 c1 c2 c3 c4
    go_enter Try.func18, Try.ntmps18
    go_wp2
    go_quiet (fail)
    go_wp2
    exact bodyPost_ret (by simp [results, Try.results18, go_sem]) rfl ⟨rfl, by repeat (first | exact Below.refl _ _ | apply pw_below_drewN | apply below_drew1 | apply below_alloc | refine Below.setCell ?_ (by simp) _)⟩
  have d4 : decide (a0_2 < 1) = false := decide_eq_false (by omega)
  by_cases c5 : a0_2 > n
  · have d5 : decide (n < a0_2) = true := decide_eq_true (by omega)
    have HN := Aside0.mk (hn (by omega))
    clear hn h c0 c1 c2 c3 c4 c5
    go_enter Try.func18, Try.ntmps18
    go_wp2
    go_quiet ((go_at_call 37; (with_reducible refine (foliotref02_month.calls k _ _ _ _ HN.out).mono ?_); rintro e w' ⟨rfl, ⟨nd, rfl⟩⟩; (try first | exact ⟨rfl, _, World.drewN_drewN _ _ _⟩ | exact ⟨rfl, _, Eq.trans (World.drewN_drewN _ _ _) (congrArg (World.drewN _) (Nat.add_assoc _ _ _))⟩)))
    go_wp2
    exact bodyPost_ret (by simp [results, Try.results18, go_sem]) rfl ⟨rfl, by repeat (first | exact Below.refl _ _ | apply pw_below_drewN | apply below_drew1 | apply below_alloc | refine Below.setCell ?_ (by simp) _)⟩
  have d5 : decide (n < a0_2) = false := decide_eq_false (by omega)
  by_cases c6 : a0_3 < 0
  · have d6 : decide (a0_3 < 0) = true := decide_eq_true (by omega)
    have HN := Aside0.mk (hn (by omega))
    clear hn h c0 c1 c2 c3 c4 c5 c6
    go_enter Try.func18, Try.ntmps18
    go_wp2
    go_quiet ((go_at_call 37; (with_reducible refine (foliotref02_month.calls k _ _ _ _ HN.out).mono ?_); rintro e w' ⟨rfl, ⟨nd, rfl⟩⟩; (try first | exact ⟨rfl, _, World.drewN_drewN _ _ _⟩ | exact ⟨rfl, _, Eq.trans (World.drewN_drewN _ _ _) (congrArg (World.drewN _) (Nat.add_assoc _ _ _))⟩)))
    go_wp2
    exact bodyPost_ret (by simp [results, Try.results18, go_sem]) rfl ⟨rfl, by repeat (first | exact Below.refl _ _ | apply pw_below_drewN | apply below_drew1 | apply below_alloc | refine Below.setCell ?_ (by simp) _)⟩
  have d6 : decide (a0_3 < 0) = false := decide_eq_false (by omega)
  by_cases c7 : a0_3 > 23
  · have d7 : decide (23 < a0_3) = true := decide_eq_true (by omega)
    have HN := Aside0.mk (hn (by omega))
    clear hn h c0 c1 c2 c3 c4 c5 c6 c7
    go_enter Try.func18, Try.ntmps18
    go_wp2
    go_quiet ((go_at_call 37; (with_reducible refine (foliotref02_month.calls k _ _ _ _ HN.out).mono ?_); rintro e w' ⟨rfl, ⟨nd, rfl⟩⟩; (try first | exact ⟨rfl, _, World.drewN_drewN _ _ _⟩ | exact ⟨rfl, _, Eq.trans (World.drewN_drewN _ _ _) (congrArg (World.drewN _) (Nat.add_assoc _ _ _))⟩)))
    go_wp2
    exact bodyPost_ret (by simp [results, Try.results18, go_sem]) rfl ⟨rfl, by repeat (first | exact Below.refl _ _ | apply pw_below_drewN | apply below_drew1 | apply below_alloc | refine Below.setCell ?_ (by simp) _)⟩
  have d7 : decide (23 < a0_3) = false := decide_eq_false (by omega)
  by_cases c8 : a0_4 < 0
  · have d8 : decide (a0_4 < 0) = true := decide_eq_true (by omega)
    have HN := Aside0.mk (hn (by omega))
    clear hn h c0 c1 c2 c3 c4 c5 c6 c7 c8
    go_enter Try.func18, Try.ntmps18
    go_wp2
    go_quiet ((go_at_call 37; (with_reducible refine (foliotref02_month.calls k _ _ _ _ HN.out).mono ?_); rintro e w' ⟨rfl, ⟨nd, rfl⟩⟩; (try first | exact ⟨rfl, _, World.drewN_drewN _ _ _⟩ | exact ⟨rfl, _, Eq.trans (World.drewN_drewN _ _ _) (congrArg (World.drewN _) (Nat.add_assoc _ _ _))⟩)))
    go_wp2
    exact bodyPost_ret (by simp [results, Try.results18, go_sem]) rfl ⟨rfl, by repeat (first | exact Below.refl _ _ | apply pw_below_drewN | apply below_drew1 | apply below_alloc | refine Below.setCell ?_ (by simp) _)⟩
  have d8 : decide (a0_4 < 0) = false := decide_eq_false (by omega)
  by_cases c9 : a0_4 > 59
  · have d9 : decide (59 < a0_4) = true := decide_eq_true (by omega)
    have HN := Aside0.mk (hn (by omega))
    clear hn h c0 c1 c2 c3 c4 c5 c6 c7 c8 c9
    go_enter Try.func18, Try.ntmps18
    go_wp2
    go_quiet ((go_at_call 37; (with_reducible refine (foliotref02_month.calls k _ _ _ _ HN.out).mono ?_); rintro e w' ⟨rfl, ⟨nd, rfl⟩⟩; (try first | exact ⟨rfl, _, World.drewN_drewN _ _ _⟩ | exact ⟨rfl, _, Eq.trans (World.drewN_drewN _ _ _) (congrArg (World.drewN _) (Nat.add_assoc _ _ _))⟩)))
    go_wp2
    exact bodyPost_ret (by simp [results, Try.results18, go_sem]) rfl ⟨rfl, by repeat (first | exact Below.refl _ _ | apply pw_below_drewN | apply below_drew1 | apply below_alloc | refine Below.setCell ?_ (by simp) _)⟩
  have d9 : decide (59 < a0_4) = false := decide_eq_false (by omega)
  by_cases c10 : a0_5 < 0
  · have d10 : decide (a0_5 < 0) = true := decide_eq_true (by omega)
    have HN := Aside0.mk (hn (by omega))
    clear hn h c0 c1 c2 c3 c4 c5 c6 c7 c8 c9 c10
    go_enter Try.func18, Try.ntmps18
    go_wp2
    go_quiet ((go_at_call 37; (with_reducible refine (foliotref02_month.calls k _ _ _ _ HN.out).mono ?_); rintro e w' ⟨rfl, ⟨nd, rfl⟩⟩; (try first | exact ⟨rfl, _, World.drewN_drewN _ _ _⟩ | exact ⟨rfl, _, Eq.trans (World.drewN_drewN _ _ _) (congrArg (World.drewN _) (Nat.add_assoc _ _ _))⟩)))
    go_wp2
    exact bodyPost_ret (by simp [results, Try.results18, go_sem]) rfl ⟨rfl, by repeat (first | exact Below.refl _ _ | apply pw_below_drewN | apply below_drew1 | apply below_alloc | refine Below.setCell ?_ (by simp) _)⟩
  have d10 : decide (a0_5 < 0) = false := decide_eq_false (by omega)
  by_cases c11 : a0_5 > 59
  · have d11 : decide (59 < a0_5) = true := decide_eq_true (by omega)
    have HN := Aside0.mk (hn (by omega))
    clear hn h c0 c1 c2 c3 c4 c5 c6 c7 c8 c9 c10 c11
    go_enter Try.func18, Try.ntmps18
    go_wp2
    go_quiet ((go_at_call 37; (with_reducible refine (foliotref02_month.calls k _ _ _ _ HN.out).mono ?_); rintro e w' ⟨rfl, ⟨nd, rfl⟩⟩; (try first | exact ⟨rfl, _, World.drewN_drewN _ _ _⟩ | exact ⟨rfl, _, Eq.trans (World.drewN_drewN _ _ _) (congrArg (World.drewN _) (Nat.add_assoc _ _ _))⟩)))
    go_wp2
    exact bodyPost_ret (by simp [results, Try.results18, go_sem]) rfl ⟨rfl, by repeat (first | exact Below.refl _ _ | apply pw_below_drewN | apply below_drew1 | apply below_alloc | refine Below.setCell ?_ (by simp) _)⟩
  have d11 : decide (59 < a0_5) = false := decide_eq_false (by omega)
  exact absurd h (by unfold badDay; simp; omega)
end Go.Proofs.Ytbondhnhiinlbaa.Pr
