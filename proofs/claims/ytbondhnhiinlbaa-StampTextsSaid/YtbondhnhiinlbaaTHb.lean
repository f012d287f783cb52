/- The machine's call of stamp.OfDate. -/
import Derived.Test.YtbondhnhiinlbaaTHb0
set_option linter.unusedVariables false
set_option linter.unusedSimpArgs false
namespace Go.Proofs.Ytbondhnhiinlbaa.Pr
open Go.RowKit Go.Proofs.YtbondhnhiinlbaaW.PrintWords Go.Proofs.YtbondhnhiinlbaaW.PrintLast Go.Proofs.YtbondhnhiinlbaaW.PrintMore
theorem alloc_drewN' (w : World) (n : Nat) (o : Obj) : (w.drewN n).alloc o = (w.alloc o).drewN n := by induction n with | zero => rfl | succ n ih => rw [show w.drewN (n + 1) = (w.drewN n).drew from by simp, World.alloc_drew, ih]; simp
theorem setCell_drewN' (w : World) (n : Nat) (a : Addr) (v : Value) : (w.drewN n).setCell a v = (w.setCell a v).drewN n := by induction n with | zero => rfl | succ n ih => rw [show w.drewN (n + 1) = (w.drewN n).drew from by simp, World.setCell_drew, ih]; simp
attribute [local go_sem] alloc_drewN' setCell_drewN'
theorem run_index64 (t n : Int) (i : Nat) (hn : (mtab t)[i]? = some n) (w : World) : (Instr.index 64 (.agg (mvals t)) (.int .i64 (i : Int))).run Try.prog w = .ok (.int .i64 n) w := by
  have hu64 := Try.underlying64
  have hl : i < 12 := (List.getElem?_eq_some_iff.1 hn).1
  rcases (show i = 0 ∨ i = 1 ∨ i = 2 ∨ i = 3 ∨ i = 4 ∨ i = 5 ∨ i = 6 ∨ i = 7 ∨ i = 8 ∨ i = 9 ∨ i = 10 ∨ i = 11 from by omega) with rfl | rfl | rfl | rfl | rfl | rfl | rfl | rfl | rfl | rfl | rfl | rfl <;>
    (obtain rfl := Option.some.inj hn; simp [Instr.index, part, go_sem, mvals, hu64])
theorem begins_2101 : stamp_begins.f 2101 = some 767009 := by decide +kernel
set_option maxHeartbeats 4000000 in
set_option maxRecDepth 100000 in
theorem stamp_OfDate.calls (a0_0 : Int) (a0_1 : Int) (r1 : Int) (r2 : Int) (r3 : Int) (r4 : Int) (r5 : Int) (r6 : Int) (r7 : Int) (r8 : Int) (w : World) (h : stamp_OfDate.f a0_0 a0_1 = some (r1, r2, r3, r4, r5, r6, r7, r8)) :
    Calls Try.prog 14 #[.agg #[.int .i64 a0_0, .int .u64 a0_1]] w fun e w' => e = .returned (.tuple #[.agg #[.int .i64 r1, .int .i64 r2, .int .i64 r3, .int .i64 r4, .int .i64 r5, .int .i64 r6, .int .u32 r7], .int .i64 r8]) ∧ Below w.heap.size w w' := by
  have hu25 := Try.underlying25
  have hu28 := Try.underlying28
  unfold stamp_OfDate.f at h
  by_cases c1 : a0_0 < -16 ∨ a0_0 > 2
  · rw [if_pos c1] at h
    simp only [Option.some.injEq, Prod.mk.injEq] at h
    obtain ⟨rfl, rfl, rfl, rfl, rfl, rfl, rfl, rfl⟩ := h
    by_cases c2 : a0_0 < -16
    · have d1 : decide (a0_0 < -16) = true := decide_eq_true c2
      go_enter Try.func14, Try.ntmps14
      go_wp2
      exact bodyPost_ret (by simp [results, Try.results14, go_sem]) rfl ⟨rfl, below_alloc (below_alloc (Below.refl _ _) _) _⟩
    · have d1 : decide (a0_0 < -16) = false := decide_eq_false c2
      have d2 : decide (2 < a0_0) = true := decide_eq_true (by omega)
      go_enter Try.func14, Try.ntmps14
      go_wp2
      exact bodyPost_ret (by simp [results, Try.results14, go_sem]) rfl ⟨rfl, below_alloc (below_alloc (Below.refl _ _) _) _⟩
  · rw [if_neg c1] at h
    have d1 : decide (a0_0 < -16) = false := decide_eq_false (by omega)
    have d2 : decide (2 < a0_0) = false := decide_eq_false (by omega)
    clear c1
    obtain ⟨s, hS⟩ : ∃ s, wrap64 (wrap64 (wrap64 (a0_0 * 4294967296) + wrap64 (a0_1 / 4294967296)) + 59926608000) = s := ⟨_, rfl⟩
    obtain ⟨dy, hD⟩ : ∃ d, wrap64 (s.tdiv 86400) = d := ⟨_, rfl⟩
    obtain ⟨y0, hY0⟩ : ∃ d, wrap64 (wrap64 (dy.tdiv 366) + 1) = d := ⟨_, rfl⟩
    unfold ofSecs secsOf at h
    rw [hS, begins_2101] at h
    simp only [Option.bind_some] at h
    rw [hD, hY0] at h
    by_cases c3 : s < 0
    · have d3 : decide (s < 0) = true := decide_eq_true c3
      rw [if_pos c3] at h
      simp only [Option.some.injEq, Prod.mk.injEq] at h
      obtain ⟨rfl, rfl, rfl, rfl, rfl, rfl, rfl, rfl⟩ := h
      clear hY0
      go_enter Try.func14, Try.ntmps14
      go_wp2
      exact bodyPost_ret (by simp [results, Try.results14, go_sem]) rfl ⟨rfl, below_alloc (below_alloc (Below.refl _ _) _) _⟩
    · have d3 : decide (s < 0) = false := decide_eq_false c3
      rw [if_neg c3] at h
      by_cases c4 : dy ≥ 767009
      · have d4 : decide (767009 ≤ dy) = true := decide_eq_true c4
        rw [if_pos c4] at h
        simp only [Option.some.injEq, Prod.mk.injEq] at h
        obtain ⟨rfl, rfl, rfl, rfl, rfl, rfl, rfl, rfl⟩ := h
        clear hY0
        go_enter Try.func14, Try.ntmps14
        go_wp2
        exact bodyPost_ret (by simp [results, Try.results14, go_sem]) rfl ⟨rfl, below_alloc (below_alloc (Below.refl _ _) _) _⟩
      · have d4 : decide (767009 ≤ dy) = false := decide_eq_false c4
        rw [if_neg c4] at h
        have HH := Aside0.mk h
        clear h c3 c4
        go_enter Try.func14, Try.ntmps14
        go_wp2
        simp only [hS, hD, hY0]
        have b1 : ((w.alloc (.cells #[.int .i64 a0_0, .int .u64 a0_1] 25)).alloc (.cells #[.int .i64 0, .int .i64 0, .int .i64 0, .int .i64 0, .int .i64 0, .int .i64 0, .int .u32 0] 28)).heap[w.heap.size]? = some (.cells #[.int .i64 a0_0, .int .u64 a0_1] 25 (0, 0)) := blk_alloc (blk_new w _) _
        have b2 : ((w.alloc (.cells #[.int .i64 a0_0, .int .u64 a0_1] 25)).alloc (.cells #[.int .i64 0, .int .i64 0, .int .i64 0, .int .i64 0, .int .i64 0, .int .i64 0, .int .u32 0] 28)).heap[w.heap.size + 1]? = some (.cells #[.int .i64 0, .int .i64 0, .int .i64 0, .int .i64 0, .int .i64 0, .int .i64 0, .int .u32 0] 28 (0, 0)) := by
          have h := blk_new (w.alloc (.cells #[.int .i64 a0_0, .int .u64 a0_1] 25)) (.cells #[.int .i64 0, .int .i64 0, .int .i64 0, .int .i64 0, .int .i64 0, .int .i64 0, .int .u32 0] 28)
          rw [show (w.alloc (.cells #[.int .i64 a0_0, .int .u64 a0_1] 25)).heap.size = w.heap.size + 1 from by simp] at h
          exact h
        have hb : Below w.heap.size w ((w.alloc (.cells #[.int .i64 a0_0, .int .u64 a0_1] 25)).alloc (.cells #[.int .i64 0, .int .i64 0, .int .i64 0, .int .i64 0, .int .i64 0, .int .i64 0, .int .u32 0] 28)) := below_alloc (below_alloc (Below.refl w.heap.size w) _) _
        generalize (w.alloc _).alloc _ = W at b1 b2 hb ⊢
        obtain ⟨g1, hg1⟩ : ∃ g, g = w.heap.size := ⟨_, rfl⟩
        obtain ⟨g2, hg2⟩ : ∃ g, g = w.heap.size + 1 := ⟨_, rfl⟩
        rw [← hg1] at b1
        rw [← hg2] at b2
        simp only [← hg2]
        simp only [← hg1]
        have hne : g1 ≠ g2 := by omega
        have hge1 : w.heap.size ≤ g1 := by omega
        have hge2 : w.heap.size ≤ g2 := by omega
        have B1 := Aside0.mk b1
        have B2 := Aside0.mk b2
        have HB := Aside0.mk hb
        have HNE := Aside0.mk hne
        have G1 := Aside0.mk hge1
        have G2 := Aside0.mk hge2
        clear b1 b2 hb hne hge1 hge2 hg1 hg2 d1 d2 d3 d4
        replace HH := HH.out
        rw [Option.bind_eq_some_iff] at HH
        obtain ⟨y, HY, HH⟩ := HH
        replace HH := Aside0.mk HH
        replace HY := Aside0.mk HY
        go_loopg [6] 3000 (fun kq v6 w' => ∃ yq, v6 = .int .i64 yq ∧ Aside0 (yr kq dy yq = some y) ∧ w' = W)
        case atStart => exact ⟨y0, rfl, HY, rfl⟩
        case round =>
          clear HY
          obtain ⟨yq, rfl, HY, rfl⟩ := hrel
          cases gk with
          | zero => exact absurd HY.out (by simp [yr])
          | succ kq =>
            have hY := HY.out
            rw [yr, Option.bind_eq_some_iff] at hY
            obtain ⟨b, hb, hY⟩ := hY
            unfold stamp_begins.f at hb
            replace hb := Option.some.inj hb
            by_cases c5 : dy ≥ b
            · rw [if_pos c5] at hY
              have HY2 := Aside0.mk hY
              have d5 : decide (b ≤ dy) = true := decide_eq_true c5
              clear hY HY c5
              go_wp2
              go_roundg kq
              case measure => omega
              case rel => exact ⟨_, rfl, HY2, rfl⟩
            · rw [if_neg c5] at hY
              obtain rfl := Option.some.inj hY
              have d5 : decide (b ≤ dy) = false := decide_eq_false c5
              clear hY HY c5
              go_wp2
              clear d5 hb
              replace HH := HH.out
              rw [Option.bind_eq_some_iff] at HH
              obtain ⟨b, hb, HH⟩ := HH
              rw [Option.bind_eq_some_iff] at HH
              obtain ⟨t, ht, HH⟩ := HH
              have HTT := Aside0.mk ht
              have HBB := Aside0.mk hb
              replace HH := Aside0.mk HH
              clear ht hb
              go_cut [7] (fun v7 wc => ∃ (g3 : Nat), v7 = .pointer (some ⟨g3, 0, none⟩) ∧ Aside0 (wc.heap[g3]? = some (.cells #[.int .i64 yq, .int .i64 0, .int .i64 (wrap64 (wrap64 (dy - b) + 1)), .int .i64 (Int.tmod (wrap64 (Int.tdiv s 3600)) 24), .int .i64 (Int.tmod (wrap64 (Int.tdiv s 60)) 60), .int .i64 (Int.tmod s 60), .int .u32 (a0_1 % 4294967296)] 28 (0, 0))) ∧ Aside0 (wc.heap[g2]? = some (.cells #[.int .i64 0, .int .i64 0, .int .i64 0, .int .i64 0, .int .i64 0, .int .i64 0, .int .u32 0] 28 (0, 0))) ∧ Aside0 (w.heap.size ≤ g3) ∧ Aside0 (g2 ≠ g3) ∧ Aside0 (Below w.heap.size w wc))
              case first =>
                have hc1 : wr.cell? ⟨g1, 1, none⟩ = some (.int .u64 a0_1) := (blk_cell B1.out 1).trans rfl
                have hlt1 := blk_lt B1.out
                have hlt2 := blk_lt B2.out
                go_region_with (go_at_call 33; (with_reducible refine (stamp_begins.calls _ _ _ HBB.out).mono ?_); rintro e w' ⟨rfl, ⟨nd, rfl⟩⟩)
                all_goals
                  go_wp2
                  go_meet
                  case rel => exact ⟨wr.heap.size, rfl, ⟨by rw [i64_w, i64_w, i64_w, i64_w]; exact blk_drewN (blk_new _ _) _⟩, ⟨blk_drewN (blk_alloc B2.out _) _⟩, ⟨HB.out.size⟩, ⟨by have := blk_lt B2.out; omega⟩, ⟨pw_below_drewN (below_alloc HB.out _) _⟩⟩
              case rest =>
                obtain ⟨g3, rfl, B3, B2, G3, NE, HB⟩ := hcut
                go_wp2_with (go_at_call 34; (with_reducible refine (stamp_months.calls _ _ _ HTT.out).mono ?_); rintro e wm ⟨rfl, hb⟩; have HBM := Aside0.mk hb; clear hb)
                obtain ⟨M, D, hmo⟩ : ∃ M D, mo (mtab t) 0 0 (wrap64 (wrap64 (dy - b) + 1)) = (M, D) := ⟨_, _, rfl⟩
                have hr := Option.some.inj HH.out
                unfold civil at hr
                rw [hD, hmo] at hr
                simp only [Prod.mk.injEq] at hr
                obtain ⟨rfl, rfl, rfl, e4, e5, e6, e7, rfl⟩ := hr
                clear HH
                have HMO := Aside0.mk hmo
                clear hmo
                have hlm := blk_lt B3.out
                have b3 := blk_below B3.out HBM.out
                have b2 := blk_below B2.out HBM.out
                have hbm := below_then HB.out HB.out.size HBM.out
                clear B3 B2 HB HBM hlm
                have B3 := Aside0.mk b3
                have B2 := Aside0.mk b2
                have HB := Aside0.mk hbm
                clear b3 b2 hbm
                rw [e4, e5, e6, e7] at B3
                obtain ⟨d0, ed0⟩ : ∃ h, h = wrap64 (wrap64 (dy - b) + 1) := ⟨_, rfl⟩
                rw [← ed0] at B3 HMO
                clear HTT HBB hS hD hY0 e4 e5 e6 e7 ed0
                go_loopg [68] 12 (fun kq v68 w' => ∃ (i : Nat) (m d : Int), v68 = .int .i64 (i : Int) ∧ Aside0 (i + kq = 12) ∧ Aside0 (mo ((mtab t).drop i) i m d = (M, D)) ∧ Aside0 (w'.heap[g3]? = some (.cells #[.int .i64 yq, .int .i64 m, .int .i64 d, .int .i64 r4, .int .i64 r5, .int .i64 r6, .int .u32 r7] 28 (0, 0))) ∧ Aside0 (w'.heap[g2]? = some (.cells #[.int .i64 0, .int .i64 0, .int .i64 0, .int .i64 0, .int .i64 0, .int .i64 0, .int .u32 0] 28 (0, 0))) ∧ Aside0 (Below w.heap.size w w'))
                case atStart => exact ⟨0, 0, d0, rfl, ⟨rfl⟩, HMO, B3, B2, HB⟩
                case round =>
                  clear HMO B3 B2 HB
                  obtain ⟨i, m, d, rfl, HI, HMO, B3, B2, HB⟩ := hrel
                  have c0 := (blk_cell B3.out 0).trans rfl
                  have f0 := blk_frozen B3.out 0
                  have d0 := (blk_cell B2.out 0).trans rfl
                  have e0 := blk_frozen B2.out 0
                  have c1 := (blk_cell B3.out 1).trans rfl
                  have f1 := blk_frozen B3.out 1
                  have d1 := (blk_cell B2.out 1).trans rfl
                  have e1 := blk_frozen B2.out 1
                  have c2 := (blk_cell B3.out 2).trans rfl
                  have f2 := blk_frozen B3.out 2
                  have d2 := (blk_cell B2.out 2).trans rfl
                  have e2 := blk_frozen B2.out 2
                  have c3 := (blk_cell B3.out 3).trans rfl
                  have f3 := blk_frozen B3.out 3
                  have d3 := (blk_cell B2.out 3).trans rfl
                  have e3 := blk_frozen B2.out 3
                  have c4 := (blk_cell B3.out 4).trans rfl
                  have f4 := blk_frozen B3.out 4
                  have d4 := (blk_cell B2.out 4).trans rfl
                  have e4 := blk_frozen B2.out 4
                  have c5 := (blk_cell B3.out 5).trans rfl
                  have f5 := blk_frozen B3.out 5
                  have d5 := (blk_cell B2.out 5).trans rfl
                  have e5 := blk_frozen B2.out 5
                  have c6 := (blk_cell B3.out 6).trans rfl
                  have f6 := blk_frozen B3.out 6
                  have d6 := (blk_cell B2.out 6).trans rfl
                  have e6 := blk_frozen B2.out 6
                  have hne1 := NE.out
                  have hne2 := Ne.symm NE.out
                  by_cases hi : i < 12
                  · skip
                    obtain ⟨n, hn⟩ : ∃ n, (mtab t)[i]? = some n := ⟨_, List.getElem?_eq_getElem (by simpa [mtab] using hi)⟩
                    have hidx := run_index64 t n i hn
                    have hdr : (mtab t).drop i = n :: (mtab t).drop (i + 1) := by
                      obtain ⟨hl, rfl⟩ := List.getElem?_eq_some_iff.1 hn
                      exact List.drop_eq_getElem_cons hl
                    have hmo := HMO.out
                    rw [hdr, mo] at hmo
                    clear HMO hn hdr
                    by_cases hd : d ≤ n
                    · rw [if_pos hd] at hmo
                      simp only [Prod.mk.injEq] at hmo
                      obtain ⟨rfl, rfl⟩ := hmo
                      have hdd : decide (d ≤ n) = true := decide_eq_true hd
                      clear hd
                      go_wp2
                      refine bodyPost_ret (results_ct rfl _ _ g2 28 #[.int .i64 yq, .int .i64 ((i : Int) + 1), .int .i64 d, .int .i64 r4, .int .i64 r5, .int .i64 r6, .int .u32 r7] (0, 0) _ rfl (by refine blk_put (cs := #[.int .i64 yq, .int .i64 ((i : Int) + 1), .int .i64 d, .int .i64 r4, .int .i64 r5, .int .i64 r6, .int .u32 0]) ?_ 6 _ rfl; refine blk_put (cs := #[.int .i64 yq, .int .i64 ((i : Int) + 1), .int .i64 d, .int .i64 r4, .int .i64 r5, .int .i64 0, .int .u32 0]) ?_ 5 _ rfl; refine blk_put (cs := #[.int .i64 yq, .int .i64 ((i : Int) + 1), .int .i64 d, .int .i64 r4, .int .i64 0, .int .i64 0, .int .u32 0]) ?_ 4 _ rfl; refine blk_put (cs := #[.int .i64 yq, .int .i64 ((i : Int) + 1), .int .i64 d, .int .i64 0, .int .i64 0, .int .i64 0, .int .u32 0]) ?_ 3 _ rfl; refine blk_put (cs := #[.int .i64 yq, .int .i64 ((i : Int) + 1), .int .i64 0, .int .i64 0, .int .i64 0, .int .i64 0, .int .u32 0]) ?_ 2 _ rfl; refine blk_put (cs := #[.int .i64 yq, .int .i64 0, .int .i64 0, .int .i64 0, .int .i64 0, .int .i64 0, .int .u32 0]) ?_ 1 _ rfl; refine blk_put (cs := #[.int .i64 0, .int .i64 0, .int .i64 0, .int .i64 0, .int .i64 0, .int .i64 0, .int .u32 0]) ?_ 0 _ rfl; exact blk_far B2.out hne1 _) hu28 rfl (by kernel_rfl)) rfl ⟨?_, ?_⟩
                      · rfl
                      · exact below_set (below_set (below_set (below_set (below_set (below_set (below_set (below_set HB.out G3.out) G2.out) G2.out) G2.out) G2.out) G2.out) G2.out) G2.out
                    · rw [if_neg hd] at hmo
                      have HMO := Aside0.mk hmo
                      have hdd : decide (d ≤ n) = false := decide_eq_false hd
                      clear hmo hd
                      go_wp2
                      go_roundg (gk - 1)
                      case measure => have := HI.out; omega
                      case rel => exact ⟨i + 1, ((i + 1 : Nat) : Int), wrap64 (d - n), by go_num, ⟨by have := HI.out; omega⟩, HMO, ⟨by refine blk_put (cs := #[.int .i64 yq, .int .i64 ((i : Int) + 1), .int .i64 d, .int .i64 r4, .int .i64 r5, .int .i64 r6, .int .u32 r7]) ?_ 2 _ rfl; refine blk_put (cs := #[.int .i64 yq, .int .i64 m, .int .i64 d, .int .i64 r4, .int .i64 r5, .int .i64 r6, .int .u32 r7]) ?_ 1 _ rfl; exact B3.out⟩, ⟨blk_far (blk_far B2.out hne1 _) hne1 _⟩, ⟨below_set (below_set HB.out G3.out) G3.out⟩⟩
                  · have hmo := HMO.out
                    obtain rfl : i = 12 := by have := HI.out; omega
                    rw [show (mtab t).drop 12 = [] from rfl, mo] at hmo
                    simp only [Prod.mk.injEq] at hmo
                    obtain ⟨rfl, rfl⟩ := hmo
                    go_wp2
                    refine bodyPost_ret (results_ct rfl _ _ g2 28 #[.int .i64 yq, .int .i64 m, .int .i64 d, .int .i64 r4, .int .i64 r5, .int .i64 r6, .int .u32 r7] (0, 0) _ rfl (by refine blk_put (cs := #[.int .i64 yq, .int .i64 m, .int .i64 d, .int .i64 r4, .int .i64 r5, .int .i64 r6, .int .u32 0]) ?_ 6 _ rfl; refine blk_put (cs := #[.int .i64 yq, .int .i64 m, .int .i64 d, .int .i64 r4, .int .i64 r5, .int .i64 0, .int .u32 0]) ?_ 5 _ rfl; refine blk_put (cs := #[.int .i64 yq, .int .i64 m, .int .i64 d, .int .i64 r4, .int .i64 0, .int .i64 0, .int .u32 0]) ?_ 4 _ rfl; refine blk_put (cs := #[.int .i64 yq, .int .i64 m, .int .i64 d, .int .i64 0, .int .i64 0, .int .i64 0, .int .u32 0]) ?_ 3 _ rfl; refine blk_put (cs := #[.int .i64 yq, .int .i64 m, .int .i64 0, .int .i64 0, .int .i64 0, .int .i64 0, .int .u32 0]) ?_ 2 _ rfl; refine blk_put (cs := #[.int .i64 yq, .int .i64 0, .int .i64 0, .int .i64 0, .int .i64 0, .int .i64 0, .int .u32 0]) ?_ 1 _ rfl; refine blk_put (cs := #[.int .i64 0, .int .i64 0, .int .i64 0, .int .i64 0, .int .i64 0, .int .i64 0, .int .u32 0]) ?_ 0 _ rfl; exact B2.out) hu28 rfl (by kernel_rfl)) rfl ⟨?_, ?_⟩
                    · rfl
                    · exact below_set (below_set (below_set (below_set (below_set (below_set (below_set HB.out G2.out) G2.out) G2.out) G2.out) G2.out) G2.out) G2.out
end Go.Proofs.Ytbondhnhiinlbaa.Pr
