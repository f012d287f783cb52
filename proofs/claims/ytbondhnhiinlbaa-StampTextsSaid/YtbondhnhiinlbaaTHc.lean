/- The machine's call of stamp.ToDate. Printed by gen_hc_stamp.py. -/
import Derived.Test.YtbondhnhiinlbaaTHb0
import Derived.Deep.RegionWith
import Derived.Laws.BitsAllLaws
section
set_option linter.unusedVariables false
set_option linter.unusedSimpArgs false
namespace Go.Proofs.Ytbondhnhiinlbaa.Pr
open Go.RowKit Go.Proofs.YtbondhnhiinlbaaW.PrintWords Go.Proofs.YtbondhnhiinlbaaW.PrintLast Go.Proofs.YtbondhnhiinlbaaW.PrintMore
theorem alloc_drewN2 (w : World) (n : Nat) (o : Obj) : (w.drewN n).alloc o = (w.alloc o).drewN n := by induction n with | zero => rfl | succ n ih => rw [show w.drewN (n + 1) = (w.drewN n).drew from by simp, World.alloc_drew, ih]; simp
theorem setCell_drewN2 (w : World) (n : Nat) (a : Addr) (v : Value) : (w.drewN n).setCell a v = (w.setCell a v).drewN n := by induction n with | zero => rfl | succ n ih => rw [show w.drewN (n + 1) = (w.drewN n).drew from by simp, World.setCell_drew, ih]; simp
attribute [local go_sem] alloc_drewN2 setCell_drewN2
set_option maxHeartbeats 2000000 in
set_option maxRecDepth 100000 in
theorem todate_bad (a0_0 a0_1 a0_2 a0_3 a0_4 a0_5 a0_6 : Int) (w : World) (h : badDay a0_0 a0_1 a0_2 a0_3 a0_4 a0_5 = true) :
    Calls Try.prog 17 #[.agg #[.int .i64 a0_0, .int .i64 a0_1, .int .i64 a0_2, .int .i64 a0_3, .int .i64 a0_4, .int .i64 a0_5, .int .u32 a0_6]] w fun e w' => e = .returned (.tuple #[.agg #[.int .i64 0, .int .u64 0], .int .i64 20]) ∧ Below w.heap.size w w' := by
  have hu25 := Try.underlying25
  have hu28 := Try.underlying28
  by_cases c0 : a0_0 < 1
  · have d0 : decide (a0_0 < 1) = true := decide_eq_true (by omega)
    clear h c0
    go_enter Try.func17, Try.ntmps17
    go_wp2
    exact bodyPost_ret (by simp [results, Try.results17, go_sem]) rfl ⟨rfl, below_alloc (below_alloc (Below.refl _ _) _) _⟩
  have d0 : decide (a0_0 < 1) = false := decide_eq_false (by omega)
  by_cases c1 : a0_0 > 2100
  · have d1 : decide (2100 < a0_0) = true := decide_eq_true (by omega)
    clear h c0 c1
    go_enter Try.func17, Try.ntmps17
    go_wp2
    exact bodyPost_ret (by simp [results, Try.results17, go_sem]) rfl ⟨rfl, below_alloc (below_alloc (Below.refl _ _) _) _⟩
  have d1 : decide (2100 < a0_0) = false := decide_eq_false (by omega)
  by_cases c2 : a0_1 < 1
  · have d2 : decide (a0_1 < 1) = true := decide_eq_true (by omega)
    clear h c0 c1 c2
    go_enter Try.func17, Try.ntmps17
    go_wp2
    exact bodyPost_ret (by simp [results, Try.results17, go_sem]) rfl ⟨rfl, below_alloc (below_alloc (Below.refl _ _) _) _⟩
  have d2 : decide (a0_1 < 1) = false := decide_eq_false (by omega)
  by_cases c3 : a0_1 > 12
  · have d3 : decide (12 < a0_1) = true := decide_eq_true (by omega)
    clear h c0 c1 c2 c3
    go_enter Try.func17, Try.ntmps17
    go_wp2
    exact bodyPost_ret (by simp [results, Try.results17, go_sem]) rfl ⟨rfl, below_alloc (below_alloc (Below.refl _ _) _) _⟩
  have d3 : decide (12 < a0_1) = false := decide_eq_false (by omega)
  by_cases c4 : a0_2 < 1
  · have d4 : decide (a0_2 < 1) = true := decide_eq_true (by omega)
    clear h c0 c1 c2 c3 c4
    go_enter Try.func17, Try.ntmps17
    go_wp2
    exact bodyPost_ret (by simp [results, Try.results17, go_sem]) rfl ⟨rfl, below_alloc (below_alloc (Below.refl _ _) _) _⟩
  have d4 : decide (a0_2 < 1) = false := decide_eq_false (by omega)
  by_cases c5 : a0_3 < 0
  · have d5 : decide (a0_3 < 0) = true := decide_eq_true (by omega)
    clear h c0 c1 c2 c3 c4 c5
    go_enter Try.func17, Try.ntmps17
    go_wp2
    exact bodyPost_ret (by simp [results, Try.results17, go_sem]) rfl ⟨rfl, below_alloc (below_alloc (Below.refl _ _) _) _⟩
  have d5 : decide (a0_3 < 0) = false := decide_eq_false (by omega)
  by_cases c6 : a0_3 > 23
  · have d6 : decide (23 < a0_3) = true := decide_eq_true (by omega)
    clear h c0 c1 c2 c3 c4 c5 c6
    go_enter Try.func17, Try.ntmps17
    go_wp2
    exact bodyPost_ret (by simp [results, Try.results17, go_sem]) rfl ⟨rfl, below_alloc (below_alloc (Below.refl _ _) _) _⟩
  have d6 : decide (23 < a0_3) = false := decide_eq_false (by omega)
  by_cases c7 : a0_4 < 0
  · have d7 : decide (a0_4 < 0) = true := decide_eq_true (by omega)
    clear h c0 c1 c2 c3 c4 c5 c6 c7
    go_enter Try.func17, Try.ntmps17
    go_wp2
    exact bodyPost_ret (by simp [results, Try.results17, go_sem]) rfl ⟨rfl, below_alloc (below_alloc (Below.refl _ _) _) _⟩
  have d7 : decide (a0_4 < 0) = false := decide_eq_false (by omega)
  by_cases c8 : a0_4 > 59
  · have d8 : decide (59 < a0_4) = true := decide_eq_true (by omega)
    clear h c0 c1 c2 c3 c4 c5 c6 c7 c8
    go_enter Try.func17, Try.ntmps17
    go_wp2
    exact bodyPost_ret (by simp [results, Try.results17, go_sem]) rfl ⟨rfl, below_alloc (below_alloc (Below.refl _ _) _) _⟩
  have d8 : decide (59 < a0_4) = false := decide_eq_false (by omega)
  by_cases c9 : a0_5 < 0
  · have d9 : decide (a0_5 < 0) = true := decide_eq_true (by omega)
    clear h c0 c1 c2 c3 c4 c5 c6 c7 c8 c9
    go_enter Try.func17, Try.ntmps17
    go_wp2
    exact bodyPost_ret (by simp [results, Try.results17, go_sem]) rfl ⟨rfl, below_alloc (below_alloc (Below.refl _ _) _) _⟩
  have d9 : decide (a0_5 < 0) = false := decide_eq_false (by omega)
  by_cases c10 : a0_5 > 59
  · have d10 : decide (59 < a0_5) = true := decide_eq_true (by omega)
    clear h c0 c1 c2 c3 c4 c5 c6 c7 c8 c9 c10
    go_enter Try.func17, Try.ntmps17
    go_wp2
    exact bodyPost_ret (by simp [results, Try.results17, go_sem]) rfl ⟨rfl, below_alloc (below_alloc (Below.refl _ _) _) _⟩
  have d10 : decide (59 < a0_5) = false := decide_eq_false (by omega)
  exact absurd h (by unfold badDay; simp; omega)
end Go.Proofs.Ytbondhnhiinlbaa.Pr
end
section
set_option linter.unusedVariables false
set_option linter.unusedSimpArgs false
namespace Go.Proofs.Ytbondhnhiinlbaa.Pr
open Go.RowKit Go.Proofs.YtbondhnhiinlbaaW.PrintWords Go.Proofs.YtbondhnhiinlbaaW.PrintLast Go.Proofs.YtbondhnhiinlbaaW.PrintMore
theorem alloc_drewN3 (w : World) (n : Nat) (o : Obj) : (w.drewN n).alloc o = (w.alloc o).drewN n := by induction n with | zero => rfl | succ n ih => rw [show w.drewN (n + 1) = (w.drewN n).drew from by simp, World.alloc_drew, ih]; simp
theorem setCell_drewN3 (w : World) (n : Nat) (a : Addr) (v : Value) : (w.drewN n).setCell a v = (w.setCell a v).drewN n := by induction n with | zero => rfl | succ n ih => rw [show w.drewN (n + 1) = (w.drewN n).drew from by simp, World.setCell_drew, ih]; simp
attribute [local go_sem] alloc_drewN3 setCell_drewN3
theorem i64_andlow (n : Int) : bits .and .i64 n 4294967295 = n % 4294967296 := by
  have h127 : (BitVec.ofInt 64 4294967295).toNat = 2 ^ 32 - 1 := by decide
  have key : (BitVec.ofInt 64 n &&& BitVec.ofInt 64 4294967295).toNat = (n % ((2 ^ 64 : Nat) : Int)).toNat % 2 ^ 32 := by
    rw [BitVec.toNat_and, BitVec.toNat_ofInt, h127, Nat.and_two_pow_sub_one_eq_mod]
  show IntKind.i64.wrap ((BitVec.ofInt 64 n &&& BitVec.ofInt 64 4294967295).toNat : Nat) = n % 4294967296
  rw [key, IntKind.wrap_i64]
  omega
theorem u64_or_low (x f : Int) (h0 : 0 ≤ x) (h1 : x < 4294967296) (h2 : 0 ≤ f) (h3 : f < 4294967296) : bits .or .u64 (x * 4294967296) f = x * 4294967296 + f := by
  rw [u64_or _ _ (by omega) (by omega) h2 (by omega)]
  obtain ⟨n, rfl⟩ := Int.eq_ofNat_of_zero_le h0
  obtain ⟨m, rfl⟩ := Int.eq_ofNat_of_zero_le h2
  rw [show ((n : Int) * 4294967296).toNat = 2 ^ 32 * n from by omega, Int.toNat_natCast, ← Nat.two_pow_add_eq_or_of_lt (by omega)]
  omega
theorem run_sliceAt64 (j g4 : Nat) (hj : j < 12) (w : World) : (Instr.sliceAt 64 (.pointer (some ⟨g4, 0, none⟩)) none (some (.int .i64 (j : Int))) none).run Try.prog w = .ok (.slice (some ⟨g4, 0, none⟩) j 12) w := by
  have hu64 := Try.underlying64
  have h0 : (0 : Int) ≤ (j : Int) := by omega
  have h1 : (j : Int) ≤ 12 := by omega
  simp [Instr.sliceAt, go_sem, hu64, Instr.sliceBounds, h0, h1]
theorem stamp_months.calls' (y t : Int) (w : World) (ht : stamp_leap.f y = some t) :
    Calls Try.prog 34 #[.int .i64 y] w fun e w' => e = .returned (.agg #[.int .i64 31, .int .i64 (wrap64 (28 + t)), .int .i64 31, .int .i64 30, .int .i64 31, .int .i64 30, .int .i64 31, .int .i64 31, .int .i64 30, .int .i64 31, .int .i64 30, .int .i64 31]) ∧ Below w.heap.size w w' := stamp_months.calls y t w ht
set_option maxHeartbeats 4000000 in
set_option maxRecDepth 100000 in
theorem todate_good (j : Nat) (a0_0 a0_2 a0_3 a0_4 a0_5 a0_6 r1 r2 r3 : Int) (w : World) (hj : j < 12) (t n b dx : Int) (ht : stamp_leap.f a0_0 = some t) (hn : (mtab t)[j]? = some n) (hb : stamp_begins.f a0_0 = some b)
    (hdx : sumDays ((mtab t).take j) (wrap64 (wrap64 (wrap64 (b + a0_2) - 1) - 693595)) = dx) (hfr : ¬ a0_2 > n → 0 ≤ a0_6 ∧ a0_6 < 4294967296)
    (h : (if a0_2 > n then some ((0 : Int), (0 : Int), (20 : Int)) else some (toSecs dx a0_3 a0_4 a0_5 / 4294967296, toSecs dx a0_3 a0_4 a0_5 % 4294967296 * 4294967296 + a0_6, 0)) = some (r1, r2, r3))
    (d0 : decide (a0_0 < 1) = false)
    (d1 : decide (2100 < a0_0) = false)
    (d2 : decide (((j : Int) + 1) < 1) = false)
    (d3 : decide (12 < ((j : Int) + 1)) = false)
    (d4 : decide (a0_2 < 1) = false)
    (d5 : decide (a0_3 < 0) = false)
    (d6 : decide (23 < a0_3) = false)
    (d7 : decide (a0_4 < 0) = false)
    (d8 : decide (59 < a0_4) = false)
    (d9 : decide (a0_5 < 0) = false)
    (d10 : decide (59 < a0_5) = false) :
    Calls Try.prog 17 #[.agg #[.int .i64 a0_0, .int .i64 ((j : Int) + 1), .int .i64 a0_2, .int .i64 a0_3, .int .i64 a0_4, .int .i64 a0_5, .int .u32 a0_6]] w fun e w' => e = .returned (.tuple #[.agg #[.int .i64 r1, .int .u64 r2], .int .i64 r3]) ∧ Below w.heap.size w w' := by
  have hu25 := Try.underlying25
  have hu28 := Try.underlying28
  have hu64 := Try.underlying64
  have hu67 := Try.underlying67
  have HT := Aside0.mk ht
  have HN := Aside0.mk hn
  have HBB := Aside0.mk hb
  have HDX := Aside0.mk hdx
  have HFR := Aside0.mk hfr
  have HH := Aside0.mk h
  have HJ := Aside0.mk hj
  clear ht hn hb hdx hfr h hj
  go_enter Try.func17, Try.ntmps17
  go_wp2_with (go_at_call 34; (with_reducible refine (stamp_months.calls' _ _ _ HT.out).mono ?_); rintro e wm ⟨rfl, hb⟩; have HBM := Aside0.mk hb; clear hb)
  have b1 : (wm.alloc (.cells #[.int .i64 31, .int .i64 (wrap64 (28 + t)), .int .i64 31, .int .i64 30, .int .i64 31, .int .i64 30, .int .i64 31, .int .i64 31, .int .i64 30, .int .i64 31, .int .i64 30, .int .i64 31] 64)).heap[w.heap.size]? = some (.cells #[.int .i64 a0_0, .int .i64 ((j : Int) + 1), .int .i64 a0_2, .int .i64 a0_3, .int .i64 a0_4, .int .i64 a0_5, .int .u32 a0_6] 28 (0, 0)) := blk_alloc (blk_below (blk_alloc (blk_new w _) _) HBM.out) _
  have b2 : (wm.alloc (.cells #[.int .i64 31, .int .i64 (wrap64 (28 + t)), .int .i64 31, .int .i64 30, .int .i64 31, .int .i64 30, .int .i64 31, .int .i64 31, .int .i64 30, .int .i64 31, .int .i64 30, .int .i64 31] 64)).heap[w.heap.size + 1]? = some (.cells #[.int .i64 0, .int .u64 0] 25 (0, 0)) := by
    have h := blk_new (w.alloc (.cells #[.int .i64 a0_0, .int .i64 ((j : Int) + 1), .int .i64 a0_2, .int .i64 a0_3, .int .i64 a0_4, .int .i64 a0_5, .int .u32 a0_6] 28)) (.cells #[.int .i64 0, .int .u64 0] 25)
    rw [show (w.alloc (.cells #[.int .i64 a0_0, .int .i64 ((j : Int) + 1), .int .i64 a0_2, .int .i64 a0_3, .int .i64 a0_4, .int .i64 a0_5, .int .u32 a0_6] 28)).heap.size = w.heap.size + 1 from by simp] at h
    exact blk_alloc (blk_below h HBM.out) _
  have b4 : (wm.alloc (.cells #[.int .i64 31, .int .i64 (wrap64 (28 + t)), .int .i64 31, .int .i64 30, .int .i64 31, .int .i64 30, .int .i64 31, .int .i64 31, .int .i64 30, .int .i64 31, .int .i64 30, .int .i64 31] 64)).heap[wm.heap.size]? = some (.cells #[.int .i64 31, .int .i64 (wrap64 (28 + t)), .int .i64 31, .int .i64 30, .int .i64 31, .int .i64 30, .int .i64 31, .int .i64 31, .int .i64 30, .int .i64 31, .int .i64 30, .int .i64 31] 64 (0, 0)) := blk_new wm _
  have hs0 : w.heap.size + 2 ≤ wm.heap.size := by have := HBM.out.size; simp at this; omega
  have hb : Below w.heap.size w (wm.alloc (.cells #[.int .i64 31, .int .i64 (wrap64 (28 + t)), .int .i64 31, .int .i64 30, .int .i64 31, .int .i64 30, .int .i64 31, .int .i64 31, .int .i64 30, .int .i64 31, .int .i64 30, .int .i64 31] 64)) := below_alloc (below_then (below_alloc (below_alloc (Below.refl w.heap.size w) _) _) (by simp; omega) HBM.out) _
  generalize wm.alloc _ = W at b1 b2 b4 hb ⊢
  obtain ⟨g1, hg1⟩ : ∃ g, g = w.heap.size := ⟨_, rfl⟩
  obtain ⟨g2, hg2⟩ : ∃ g, g = w.heap.size + 1 := ⟨_, rfl⟩
  obtain ⟨g4, hg4⟩ : ∃ g, g = wm.heap.size := ⟨_, rfl⟩
  rw [← hg1] at b1
  rw [← hg2] at b2
  rw [← hg4] at b4
  simp only [← hg4]
  simp only [← hg2]
  simp only [← hg1]
  have B1 := Aside0.mk b1
  have B2 := Aside0.mk b2
  have B4 := Aside0.mk b4
  have HB := Aside0.mk hb
  have NE := Aside0.mk (show g2 ≠ g4 by omega)
  have G2 := Aside0.mk (show w.heap.size ≤ g2 by omega)
  have c0 := (blk_cell b1 0).trans rfl
  have c1 := (blk_cell b1 1).trans rfl
  have c2 := (blk_cell b1 2).trans rfl
  have hcn : W.cell? ⟨g4, j, none⟩ = some (.int .i64 n) := by
    rw [blk_cell b4 j]
    have h := HN.out
    have hl : j < 12 := HJ.out
    rcases (show j = 0 ∨ j = 1 ∨ j = 2 ∨ j = 3 ∨ j = 4 ∨ j = 5 ∨ j = 6 ∨ j = 7 ∨ j = 8 ∨ j = 9 ∨ j = 10 ∨ j = 11 from by omega) with rfl | rfl | rfl | rfl | rfl | rfl | rfl | rfl | rfl | rfl | rfl | rfl <;> (obtain rfl := Option.some.inj h; rfl)
  clear b1 b2 b4 hb hg1 hg2 hg4 hs0 HBM d0 d1 d2 d3 d4 d5 d6 d7 d8 d9 d10
  have hz : IntKind.i64.wrap ((j : Int) + 1 - 1) = (j : Int) := by rw [IntKind.wrap_i64]; have := HJ.out; omega
  have z0 : (0 : Int) ≤ (j : Int) := by omega
  have z1 : (j : Int) < 12 := by have := HJ.out; omega
  have z2 : (j : Int).toNat = j := by omega
  by_cases hd : a0_2 > n
  · have hdd : decide (n < a0_2) = true := decide_eq_true hd
    have hh := HH.out
    rw [if_pos hd] at hh
    simp only [Option.some.injEq, Prod.mk.injEq] at hh
    obtain ⟨rfl, rfl, rfl⟩ := hh
    clear HH hd
    have e0 := (blk_cell B2.out 0).trans rfl
    have e1 := (blk_cell B2.out 1).trans rfl
    have f0 := blk_frozen B2.out 0
    have f1 := blk_frozen B2.out 1
    go_quiet (fail)
    go_wp2
    refine bodyPost_ret (results_ct rfl _ _ g2 25 #[.int .i64 0, .int .u64 0] (0, 0) _ rfl (by refine blk_put (cs := #[.int .i64 0, .int .u64 0]) ?_ 1 _ rfl; refine blk_put (cs := #[.int .i64 0, .int .u64 0]) ?_ 0 _ rfl; exact B2.out) hu25 rfl (by kernel_rfl)) rfl ⟨rfl, ?_⟩
    exact pw_below_drewN (below_set (below_set HB.out G2.out) G2.out) _
  · have hdd : decide (n < a0_2) = false := decide_eq_false hd
    replace HFR := Aside0.mk (HFR.out (Int.not_lt.mp hd))
    have hh := HH.out
    rw [if_neg hd] at hh
    simp only [Option.some.injEq, Prod.mk.injEq] at hh
    obtain ⟨o1, o2, rfl⟩ := hh
    have O1 := Aside0.mk o1
    have O2 := Aside0.mk o2
    clear o1 o2
    clear HH hd
    go_quiet (fail)
    go_wp2
    go_quiet ((go_at_call 33; (with_reducible refine (stamp_begins.calls _ _ _ HBB.out).mono ?_); rintro e w' ⟨rfl, ⟨nd, rfl⟩⟩; (try first | exact ⟨rfl, _, World.drewN_drewN _ _ _⟩ | exact ⟨rfl, _, Eq.trans (World.drewN_drewN _ _ _) (congrArg (World.drewN _) (Nat.add_assoc _ _ _))⟩)))
    have hsl := run_sliceAt64 j g4 HJ.out
    go_wp2
    clear hsl hz hcn hdd c1 c2 c0
    generalize hW2 : W.drewN _ = W2
    have hh : W.heap = W2.heap := by rw [← hW2]; rfl
    have b1 := B1.out
    rw [hh] at b1
    have b2 := B2.out
    rw [hh] at b2
    have b4 := B4.out
    rw [hh] at b4
    have hb : Below w.heap.size w W2 := by rw [← hW2]; exact pw_below_drewN HB.out _
    clear B1 B2 B4 HB hW2 hh
    have B1 := Aside0.mk b1
    have B2 := Aside0.mk b2
    have B4 := Aside0.mk b4
    have HB := Aside0.mk hb
    clear b1 b2 b4 hb
    go_loopg [5, 88] j (fun kq v5 v88 w' => ∃ (i : Nat) (dq : Int), v5 = .int .i64 dq ∧ v88 = .int .i64 (i : Int) ∧ Aside0 (i + kq = j) ∧ Aside0 (sumDays (((mtab t).take j).drop i) dq = dx) ∧ w' = W2)
    case atStart => exact ⟨0, _, rfl, rfl, ⟨by omega⟩, ⟨HDX.out⟩, rfl⟩
    case round =>
      clear HDX
      obtain ⟨i, dq, rfl, rfl, HI, HD, rfl⟩ := hrel
      by_cases hi : i < j
      · obtain ⟨m, hm⟩ : ∃ m, (mtab t)[i]? = some m := ⟨_, List.getElem?_eq_getElem (by have := HJ.out; simp [mtab]; omega)⟩
        have hci : wr.cell? ⟨g4, i, none⟩ = some (.int .i64 m) := by
          rw [blk_cell B4.out i]
          have hl : i < 12 := by have := HJ.out; omega
          rcases (show i = 0 ∨ i = 1 ∨ i = 2 ∨ i = 3 ∨ i = 4 ∨ i = 5 ∨ i = 6 ∨ i = 7 ∨ i = 8 ∨ i = 9 ∨ i = 10 ∨ i = 11 from by omega) with rfl | rfl | rfl | rfl | rfl | rfl | rfl | rfl | rfl | rfl | rfl | rfl <;> (obtain rfl := Option.some.inj hm; rfl)
        have hdr : ((mtab t).take j).drop i = m :: ((mtab t).take j).drop (i + 1) := by
          have hl : i < ((mtab t).take j).length := by have := HJ.out; simp [mtab]; omega
          rw [List.drop_eq_getElem_cons hl]
          obtain ⟨hl2, rfl⟩ := List.getElem?_eq_some_iff.1 hm
          simp
        have hd := HD.out
        rw [hdr] at hd
        have HD2 : Aside0 (sumDays (((mtab t).take j).drop (i + 1)) (wrap64 (dq + m)) = dx) := ⟨hd⟩
        clear hdr hd HD hm
        have k0 : (0 : Int) ≤ (i : Int) := by omega
        have k1 : (i : Int) < (j : Int) := by omega
        have k2 : (i : Int).toNat = i := by omega
        go_wp2
        go_roundg (gk - 1)
        case measure => have := HI.out; omega
        case rel => exact ⟨i + 1, _, rfl, by go_num, ⟨by have := HI.out; omega⟩, HD2, rfl⟩
      · obtain rfl : i = j := by have := HI.out; omega
        have hd := HD.out
        rw [List.drop_eq_nil_of_le (by rw [List.length_take]; omega)] at hd
        obtain rfl : dq = dx := hd
        clear HD
        have c3 := (blk_cell B1.out 3).trans rfl
        have c4 := (blk_cell B1.out 4).trans rfl
        have c5 := (blk_cell B1.out 5).trans rfl
        have c6 := (blk_cell B1.out 6).trans rfl
        have e0 := (blk_cell B2.out 0).trans rfl
        have e1 := (blk_cell B2.out 1).trans rfl
        have f0 := blk_frozen B2.out 0
        have f1 := blk_frozen B2.out 1
        obtain ⟨S, hS⟩ : ∃ S, wrap64 (wrap64 (wrap64 (wrap64 (dq * 86400) + wrap64 (a0_3 * 3600)) + wrap64 (a0_4 * 60)) + a0_5) = S := ⟨_, rfl⟩
        have o1 := O1.out
        have o2 := O2.out
        rw [show toSecs dq a0_3 a0_4 a0_5 = S from hS] at o1 o2
        have q1 := i64_andlow S
        have q2 : IntKind.u64.wrap (S % 4294967296) = S % 4294967296 := by rw [IntKind.wrap_u64]; omega
        have q3 : IntKind.u64.wrap (S % 4294967296 * 4294967296) = S % 4294967296 * 4294967296 := by rw [IntKind.wrap_u64]; omega
        have q4 := u64_or_low (S % 4294967296) a0_6 (by omega) (by omega) HFR.out.1 HFR.out.2
        have q5 : IntKind.u64.wrap a0_6 = a0_6 := by rw [IntKind.wrap_u64]; have := HFR.out; omega
        go_wp2
        refine bodyPost_ret (results_ct rfl _ _ g2 25 #[.int .i64 r1, .int .u64 r2] (0, 0) _ rfl (by refine blk_put (cs := #[.int .i64 r1, .int .u64 0]) ?_ 1 _ rfl; refine blk_put (cs := #[.int .i64 0, .int .u64 0]) ?_ 0 _ rfl; exact B2.out) hu25 rfl (by kernel_rfl)) rfl ⟨rfl, ?_⟩
        exact below_set (below_set HB.out G2.out) G2.out
end Go.Proofs.Ytbondhnhiinlbaa.Pr
end
section
set_option linter.unusedVariables false
set_option linter.unusedSimpArgs false
namespace Go.Proofs.Ytbondhnhiinlbaa.Pr
open Go.RowKit Go.Proofs.YtbondhnhiinlbaaW.PrintWords Go.Proofs.YtbondhnhiinlbaaW.PrintLast Go.Proofs.YtbondhnhiinlbaaW.PrintMore
theorem badDay_false {y m d h mi s : Int} (hb : ¬ badDay y m d h mi s = true) : 1 ≤ y ∧ y ≤ 2100 ∧ 1 ≤ m ∧ m ≤ 12 ∧ 1 ≤ d ∧ 0 ≤ h ∧ h ≤ 23 ∧ 0 ≤ mi ∧ mi ≤ 59 ∧ 0 ≤ s ∧ s ≤ 59 := by
  unfold badDay at hb
  simp only [Bool.or_eq_true, decide_eq_true_eq] at hb
  omega
theorem stamp_ToDate.calls (a0_0 a0_1 a0_2 a0_3 a0_4 a0_5 a0_6 : Int) (r1 : Int) (r2 : Int) (r3 : Int) (w : World) (h : stamp_ToDate.f a0_0 a0_1 a0_2 a0_3 a0_4 a0_5 a0_6 = some (r1, r2, r3)) :
    Calls Try.prog 17 #[.agg #[.int .i64 a0_0, .int .i64 a0_1, .int .i64 a0_2, .int .i64 a0_3, .int .i64 a0_4, .int .i64 a0_5, .int .u32 a0_6]] w fun e w' => e = .returned (.tuple #[.agg #[.int .i64 r1, .int .u64 r2], .int .i64 r3]) ∧ Below w.heap.size w w' := by
  unfold stamp_ToDate.f at h
  by_cases hbad : badDay a0_0 a0_1 a0_2 a0_3 a0_4 a0_5 = true
  · rw [if_pos hbad] at h
    simp only [Option.some.injEq, Prod.mk.injEq] at h
    obtain ⟨rfl, rfl, rfl⟩ := h
    exact todate_bad _ _ _ _ _ _ _ w hbad
  · rw [if_neg hbad] at h
    have hr := badDay_false hbad
    obtain ⟨j, rfl⟩ : ∃ j : Nat, a0_1 = (j : Int) + 1 := ⟨(a0_1 - 1).toNat, by omega⟩
    rw [show ((j : Int) + 1 - 1).toNat = j from by omega] at h
    rw [Option.bind_eq_some_iff] at h
    obtain ⟨t, ht, h⟩ := h
    have hj : j < 12 := by omega
    obtain ⟨n, hn⟩ : ∃ n, (mtab t)[j]? = some n := ⟨_, List.getElem?_eq_getElem (by simpa [mtab] using hj)⟩
    have hg : (mtab t).getD j 0 = n := by rw [List.getD_eq_getElem?_getD, hn]; rfl
    rw [hg] at h
    have hbg : ∃ b, stamp_begins.f a0_0 = some b := ⟨_, rfl⟩
    obtain ⟨b, hb⟩ := hbg
    by_cases hfr : 0 ≤ a0_6 ∧ a0_6 < 4294967296
    · rw [hb] at h
      simp only [Option.bind_some] at h
      rw [if_pos hfr] at h
      refine todate_good j a0_0 a0_2 a0_3 a0_4 a0_5 a0_6 r1 r2 r3 w hj t n b _ ht hn hb rfl (fun _ => hfr) h ?_ ?_ ?_ ?_ ?_ ?_ ?_ ?_ ?_ ?_ ?_ <;> exact decide_eq_false (by omega)
    · by_cases hd : a0_2 > n
      · rw [if_pos hd] at h
        refine todate_good j a0_0 a0_2 a0_3 a0_4 a0_5 a0_6 r1 r2 r3 w hj t n b _ ht hn hb rfl (fun hn => absurd hd hn) (by rw [if_pos hd]; exact h) ?_ ?_ ?_ ?_ ?_ ?_ ?_ ?_ ?_ ?_ ?_ <;> exact decide_eq_false (by omega)
      · rw [hb, if_neg hd] at h
        simp only [Option.bind_some] at h
        rw [if_neg hfr] at h
        exact absurd h (by simp)
end Go.Proofs.Ytbondhnhiinlbaa.Pr
end
